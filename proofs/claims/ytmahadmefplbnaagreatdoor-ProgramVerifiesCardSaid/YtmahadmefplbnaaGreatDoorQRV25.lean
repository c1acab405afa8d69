/- Part 25. -/
import Derived.Test.YtmahadmefplbnaaGreatDoorQRV23
import Derived.Test.YtmahadmefplbnaaGreatDoorQRV24
import Derived.Lib.ParseIntBTie
set_option maxRecDepth 100000
set_option maxHeartbeats 2000000
set_option linter.unusedSimpArgs false
set_option linter.unusedVariables false
theorem Go.Proofs.YtmahadmefplbnaaGreatDoor.Hi25 {p:Prop} (h:p):Go.RowKit.Hid p:=h
namespace Go.Proofs.YtmahadmefplbnaaGreatDoor
open Go Go.RowKit
theorem keepA {w w':World} (e:Ext w w') {a:Addr} {v:Value} (h:w.cell? a=some v):w'.cell? a=some v:=(e.cell (cell_lt h)).trans h
theorem set_at {cs:Array Value} {i:Nat} {u v:Value} (h:cs[i]?=some u):(cs.setIfInBounds i v)[i]?=some v:=by
 have:=(Array.getElem?_eq_some_iff.1 h).1;simp [this]
theorem set_ne {cs:Array Value} {i j:Nat} {u v:Value} (hij:i≠j) (h:cs[j]?=some u):(cs.setIfInBounds i v)[j]?=some u:=by
 rw [Array.getElem?_setIfInBounds_ne hij];exact h
theorem ite_ext {c:Prop} [Decidable c] {a b a' b':Prop} (h:if c then a else b) (ha:a->a') (hb:b->b'):if c then a' else b':=by
 split
 ·rename_i hc;rw [if_pos hc] at h;exact ha h
 ·rename_i hc;rw [if_neg hc] at h;exact hb h
theorem ite_map {c:Prop} [Decidable c] {a b a' b':Prop} (h:if c then a else b) (ha:a->a') (hb:b->b'):if c then a' else b':=ite_ext h ha hb
theorem Mv.le {X w W:World} {S:Nat->Prop} (h:Mv X w S W) {k:Nat} (hk:S k∨w.heap.size<=k):X.heap.size<=k:=hk.elim (h.low k) (fun e=>Nat.le_trans h.base e)
def Rd (w:World) (v:Value) (n:Nat) (g:Nat->Value):Prop:=∃ (ao:Option Addr) (cap:Nat),v = .slice ao n cap/\n<=cap/\cap<=maxLen/\∀ i,i<n->∃ a,ao=some a/\w.cell? (a.add i)=some (g i)
theorem Rd.ext {w w':World} {v:Value} {n:Nat} {g:Nat->Value} (h:Rd w v n g) (e:Ext w w'):Rd w' v n g:=by
 obtain ⟨ao,cap,h1,h2,h3,h4⟩:=h;exact ⟨ao,cap,h1,h2,h3,fun i hi=>let ⟨a,e1,e2⟩:=h4 i hi;⟨a,e1,keepA e e2⟩⟩
theorem Rd.congr {w:World} {v:Value} {n:Nat} {g g':Nat->Value} (h:Rd w v n g) (e:∀ i,i<n->g i=g' i):Rd w v n g':=by
 obtain ⟨ao,cap,h1,h2,h3,h4⟩:=h;exact ⟨ao,cap,h1,h2,h3,fun i hi=>let ⟨a,e1,e2⟩:=h4 i hi;⟨a,e1,by rw [← e i hi];exact e2⟩⟩
theorem Rd.nil (w:World) (g:Nat->Value):Rd w (.slice none 0 0) 0 g:=⟨none,0,rfl,Nat.le_refl _,Nat.zero_le _,fun i hi=>absurd hi (by omega)⟩
theorem Rd.blk {w:World} {k n cap:Nat} {cs:Array Value} {t:TypeId} {g:Nat->Value} (hB:Blk w k cs t) (h1:n<=cap) (h2:cap<=maxLen) (hc:∀ i,i<n->cs[i]?=some (g i)):Rd w (.slice (some ⟨k,0,none⟩) n cap) n g :=
 ⟨_,_,rfl,h1,h2,fun i hi=>⟨_,rfl,by
  have e:(⟨k,0,none⟩:Addr).add i=⟨k,i,none⟩:=by unfold Addr.add;split <;> simp_all
  rw [e];exact hB.cell i (hc i hi)⟩⟩
abbrev Rs (w:World) (v:Value) (n:Nat) (t:Nat->ByteArray):Prop:=Rd w v n (fun i => .string (t i))
abbrev Rq (w:World) (v:Value) (n:Nat) (a:Nat->Rat):Prop:=Rd w v n (fun i => .string (qs (a i)))
abbrev Ri (w:World) (v:Value) (n:Nat) (a:Nat->Int):Prop:=Rd w v n (fun i => .int .i64 (a i))
theorem smq_qb {n k m:Nat} {a b:Nat->Rat} (ha:∀ i,i<n->QB k (a i)) (hb:∀ i,i<n->QB m (b i)):∀ i,i<=n->QB (1+i*(k+m+1)) (smq i (fun j=>a j*b j))
 | 0,_=>by simp only [smq];exact (QB.int (n:=0) (k:=1) ⟨by decide⟩ (by decide)).mono (by omega)
 | i+1,hi=>by
  rw [smq];exact ((smq_qb ha hb i (by omega)).add ((ha i (by omega)).mul (hb i (by omega)))).mono (by rw [Nat.add_mul,Nat.one_mul];omega)
theorem dot_sz {i n k m:Nat} (hi:i<=n) (h:n*(k+m+1)<=198):1+i*(k+m+1)<=199:=by
 have:=Nat.mul_le_mul_right (k+m+1) hi;omega
theorem dot_go (a1o_ a2o_:Option Addr) (c1_ c2_ n:Nat) (x y:Nat->Rat) {q r:Nat} (w:World) (g:Gd w) (h1:∀ i,i<n->∃ a,a1o_=some a/\w.cell? (a.add i)=some (.string (qs (x i)))) (h2:∀ i,i<n->∃ a,a2o_=some a/\w.cell? (a.add i)=some (.string (qs (y i)))) (hq:∀ i,i<n->QB q (x i)) (hr:∀ i,i<n->QB r (y i)) (hm:n<=1000000) (hsz:n*(q+r+1)<=198):Calls Tryz.prog 78 #[.slice a1o_ n c1_,.slice a2o_ n c2_] w (Ret w (.string (qs (smq n (fun j=>x j*y j))))):=by
 have HG:=Hi25 g;have HA:=Hi25 h1;have HB:=Hi25 h2;have HQ:=Hi25 hq;have HR:=Hi25 hr;clear g h1 h2 hq hr;have HS:Hid (∀ i,i<=n->QB 199 (smq i (fun j=>x j*y j))):=Hi25 (fun i hi=>(smq_qb HQ.out HR.out i hi).mono (dot_sz hi hsz));have hq3:n≠0->q+r+1<=198:=fun h=>Nat.le_trans (Nat.le_mul_of_pos_left _ (by omega)) hsz
 clear hsz;go_enter Tryz.func78,Tryz.ntmps78;go_wp2_with fail;go_loopw [9,5] (fun x0_ x1_ wx=>∃ k:Nat,x0_ = .int .i64 k/\x1_ = .string (qs (smq k (fun j=>x j*y j)))/\k<=n/\Hid (Ext w wx)) (fun x0_ x1_ _=>n-(intOf x0_).toNat)
 case atStart=>exact ⟨0,rfl,by simp only [smq];rw [qs_zero],Nat.zero_le _,Hi25 (Ext.refl w)⟩
 case round =>
  rename World=>w1
  obtain ⟨k,rfl,rfl,hk,HX0⟩:=hrel;have HX1:Hid (Ext w w1):=HX0;clear HX0;by_cases hlt:k<n
  ·have hlt2:(k:Int)<(n:Int):=by omega
   obtain ⟨a1_,rfl,d1_⟩:=HA.out k hlt;obtain ⟨a2_,rfl,d2_⟩:=HB.out k hlt;have HD1:=Hi25 d1_;have HD2:=Hi25 d2_;clear d1_ d2_;by_cases hz:x k=0
   ·have z1:=qs_is0 hz;have ES:smq (k+1) (fun j=>x j*y j)=smq k (fun j=>x j*y j):=by rw [smq,hz];grind
    have HE:=Hi25 ES;clear ES hz;have ca_k:=keepA HX1.out (HD1.out);go_wp2_with fail;go_roundw
    case rel=>exact ⟨k+1,by go_num,by rw [HE.out],by omega,Hi25 HX1.out⟩
    case measure=>simp [intOf];omega
   ·by_cases hy:y k=0
    ·have z1:=qs_not0 hz;have z2:=qs_is0 hy;have ES:smq (k+1) (fun j=>x j*y j)=smq k (fun j=>x j*y j):=by rw [smq,hy];grind
     have HE:=Hi25 ES;clear ES hy hz;have ca_k:=keepA HX1.out (HD1.out);have cb_k:=keepA HX1.out (HD2.out);go_wp2_with fail;go_roundw
     case rel=>exact ⟨k+1,by go_num,by rw [HE.out],by omega,Hi25 HX1.out⟩
     case measure=>simp [intOf];omega
    ·have z1:=qs_not0 hz;have z2:=qs_not0 hy;clear hz hy;have ca_k:=keepA HX1.out (HD1.out);have cb_k:=keepA HX1.out (HD2.out);go_wp2_with fail;clear ca_k cb_k;refine region_e [.val (.string (qs (smq k (fun j=>x j*y j)))),.val (.slice (some a1_) n c1_),.val (.int .i64 (k:Int)),.val (.pointer (some (a1_.add k))),.val (.string (qs (x k))),.val (.slice (some a2_) n c2_),.val (.int .i64 (k:Int)),.val (.pointer (some (a2_.add k))),.val (.string (qs (y k))),.val (.string (qs (x k*y k))),.val (.string (qs (smq k (fun j=>x j*y j)+x k*y k))),.val (.string (qs (smq k (fun j=>x j*y j)+x k*y k)))] (fun L g W=>True) (S:=fun _=>False) (by kernel_rfl) (by kernel_rfl) (by kernel_rfl) (Mv.refl HX1.out (fun k h=>h.elim)) ?_ ?_ ?_ ?_ (fun gv_ w2 hm_ he_=>?_)
     ·exact fun _=>trivial
     ·exact fun _ _ _ _ h _=>h
     ·exact fun _ _ _ _ _ _ h=>h
     ·skip
      refine RI 5 (.string (qs (smq k (fun j=>x j*y j))))<|RI 0 (.slice (some a1_) n c1_)<|RI 6 (.int .i64 (k:Int))<|R2 1 2<|J2 (fun hs_=>hs_.val 3) (fun hs_=>keepA hs_.mv.ext (HD1.out))<|RI 1 (.slice (some a2_) n c2_)<|RI 6 (.int .i64 (k:Int))<|R2 5 6<|J2 (fun hs_=>hs_.val 7) (fun hs_=>keepA hs_.mv.ext (HD2.out)) ?_;refine RV (fun A_ hs_ K_ hK_=>?_) ?_;· have q28_:=hs_.val 4;have q32_:=hs_.val 8;go_simp;refine (rmul_c (x k) (y k) _ (HG.out.ext hs_.mv.ext) (HQ.out k hlt) (HR.out k hlt) (by omega) (by omega)).mono ?_;rintro e W9_ ⟨rfl,e9_⟩;exact hK_.out _ e9_
      refine RV (fun A_ hs_ K_ hK_=>?_) ?_;· have q24_:=hs_.val 0;have q33_:=hs_.val 9;go_simp;refine (radd_c (smq k (fun j=>x j*y j)) (x k*y k) _ (HG.out.ext hs_.mv.ext) (HS.out k hk) ((HQ.out k hlt).mul (HR.out k hlt)) (by omega) (by omega)).mono ?_;rintro e W9_ ⟨rfl,e9_⟩;exact hK_.out _ e9_
      exact R1 10<|RnEL.nil
     simp only [fse,Ke.value,puts,Act.put,List.setIfInBounds_toArray,List.set_cons_zero,List.set_cons_succ];have HX2:Hid (Ext w w2):=Hi25 hm_.ext;clear hm_ he_;go_wp2_with fail;go_roundw
     case rel=>exact ⟨k+1,by go_num,by rw [smq],by omega,Hi25 HX2.out⟩
     case measure=>simp [intOf];omega
  ·have hk2:k=n:=by omega
   subst hk2;have hge:¬ (k:Int)<(k:Int):=by omega
   go_wp2;go_ret;exact ⟨rfl,HX1.out⟩
theorem dot_c (va vb:Value) (n:Nat) (x y:Nat->Rat) {q r:Nat} (w:World) (g:Gd w) (ha:Rq w va n x) (hb:Rq w vb n y) (hq:∀ i,i<n->QB q (x i)) (hr:∀ i,i<n->QB r (y i)) (hm:n<=1000000) (hsz:n*(q+r+1)<=198) :
    Calls Tryz.prog 78 #[va,vb] w (Ret w (.string (qs (smq n (fun j=>x j*y j))))):=by
 obtain ⟨a1,c1,rfl,_,_,h1⟩:=ha;obtain ⟨a2,c2,rfl,_,_,h2⟩:=hb;exact dot_go a1 a2 c1 c2 n x y w g h1 h2 hq hr hm hsz
theorem QB0:QB 1 (0:Rat):=QB.int (n:=0) (k:=1) ⟨by decide⟩ (by decide)
theorem qb_ite {c:Prop} [Decidable c] {q:Nat} {a b:Rat} (ha:QB q a) (hb:QB q b):QB q (if c then a else b):=by
 split
 ·exact ha
 ·exact hb
theorem put_zero {n at_:Nat} {f:Nat->Rat} {FC:Array Value} (h:∀ j,j<n->FC[j]?=some (.string (qs (f j)))) (hat:at_<n) (j:Nat) (hj:j<n) :
    (FC.setIfInBounds at_ (.string ⟨#[48]⟩))[j]?=some (.string (qs (if j=at_ then 0 else f j))):=by
 by_cases e:j=at_
 ·subst e;rw [if_pos rfl,qs_zero];exact set_at (h j hj)
 ·rw [if_neg e];exact set_ne (Ne.symm e) (h j hj)
theorem put_round0 {n k:Nat} {f0 bf:Nat->Rat} {x:Rat} {FK:Array Value} (h:∀ j,j<n->FK[j]?=some (.string (qs (if j<k then f0 j+x*bf j else f0 j)))) (hb:bf k=0) (j:Nat) (hj:j<n) :
    FK[j]?=some (.string (qs (if j<k+1 then f0 j+x*bf j else f0 j))):=by
 rw [h j hj];by_cases e:j=k
 ·subst e;rw [if_neg (by omega),if_pos (by omega),hb,Rat.mul_zero,Rat.add_zero]
 ·by_cases h1:j<k
  ·rw [if_pos h1,if_pos (by omega)]
  ·rw [if_neg h1,if_neg (by omega)]
theorem put_round {n k:Nat} {f0 bf:Nat->Rat} {x:Rat} {FK:Array Value} (h:∀ j,j<n->FK[j]?=some (.string (qs (if j<k then f0 j+x*bf j else f0 j)))) (hk:k<n) (j:Nat) (hj:j<n) :
    (FK.setIfInBounds k (.string (qs (f0 k+x*bf k))))[j]?=some (.string (qs (if j<k+1 then f0 j+x*bf j else f0 j))):=by
 by_cases e:j=k
 ·subst e;rw [if_pos (by omega)];exact set_at (h j hj)
 ·rw [set_ne (Ne.symm e) (h j hj)];by_cases h1:j<k
  ·rw [if_pos h1,if_pos (by omega)]
  ·rw [if_neg h1,if_neg (by omega)]
theorem put_c (X:World) (lb lo fg fcap n at_ bg bcap q:Nat) (c bc:Rat) (f bf:Nat->Rat) (LC FC BC:Array Value) (tl:TypeId) (w:World) (g:Gd X) (hX:Ext X w) (xl:X.heap.size<=lb) (xf:X.heap.size<=fg) (n1:lb≠fg) (n2:bg≠lb) (n3:bg≠fg) (bl:Blk w lb LC tl) (bF:Blk w fg FC 34) (bG:Blk w bg BC 34) (l0:LC[lo]?=some (.string (qs c))) (l1:LC[lo+1]?=some (.slice (some ⟨fg,0,none⟩) n fcap)) (hF:∀ j,j<n->FC[j]?=some (.string (qs (f j)))) (hG:∀ j,j<n->BC[j]?=some (.string (qs (bf j)))) (hat:at_<n) (hn:n<=1000000) (hq1:1<=q) (hq2:q<=900) (qc:QB q c) (qb:QB q bc) (qf:∀ j,j<n->QB q (f j)) (qbf:∀ j,j<n->QB q (bf j)):Calls Tryz.prog 257 #[.pointer (some ⟨lb,lo,none⟩),.int .i64 (at_:Int),.agg #[.string (qs bc),.slice (some ⟨bg,0,none⟩) n bcap]] w (fun e w'=>e = .returned (.tuple #[])/\Mv X w (fun k=>k=lb∨k=fg) w'/\∃ LD,Blk w' lb LD tl/\LD[lo]?=some (.string (qs (c+f at_*bc)))/\(∀ i,i≠lo->LD[i]?=LC[i]?)/\∃ FD,Blk w' fg FD 34/\∀ j,j<n->FD[j]?=some (.string (qs ((if j=at_ then 0 else f j)+f at_*bf j)))):=by
 have HG:=Hi25 g;have HLB:=Hi25 bl;have HFB:=Hi25 bF;have HGB:=Hi25 bG;have HL0:=Hi25 l0;have HL1:=Hi25 l1;have HFC:=Hi25 hF;have HGC:=Hi25 hG;have HQc:=Hi25 qc;have HQb:=Hi25 qb;have HQ:=Hi25 qf;have HQf:=Hi25 qbf;have HN1:=Hi25 n1;have HN2:=Hi25 n2;have HN3:=Hi25 n3;clear g bl bF bG l0 l1 hF hG qc qb qf qbf n1 n2 n3;have HX0:Hid (Mv X w (fun k=>k=lb∨k=fg) w):=Hi25 (Mv.refl hX (fun k h=>h.elim (fun e=>e▸xl) (fun e=>e▸xf)));have HQ1:=Hi25 hq1;have hat2:(at_:Int)<(n:Int):=by omega
 clear hX xl xf;go_enter Tryz.func257,Tryz.ntmps257;go_upto_region 1 with fail
 refine wp_name (fun W=>Mv X w (fun k=>k=lb∨k=fg) W/\Blk W (lb) (LC) tl/\Blk W (fg) (FC) 34/\Blk W (bg) (BC) 34/\Blk W (w.heap.size) (#[.string (qs bc),.slice (some ⟨bg,0,none⟩) n bcap]) 182) ⟨(HX0.out.alloc _),(HLB.out.alloc _),(HFB.out.alloc _),(HGB.out.alloc _),(Blk.nw (#[.string (qs bc),.slice (some ⟨bg,0,none⟩) n bcap]) 182)⟩ ?_;rintro w1 ⟨e1,bBl_1,bBf_1,bBg_1,bB0_1⟩;have HX1:=Hi25 e1;have HBl_1:=Hi25 bBl_1;have HBf_1:=Hi25 bBf_1;have HBg_1:=Hi25 bBg_1;have HB0_1:=Hi25 bB0_1;have HGEB0:Hid (w.heap.size<=w.heap.size):=Hi25 (Nat.le_refl _);clear e1 bBl_1 bBf_1 bBg_1 bB0_1;have cl_lo___1:=HBl_1.out.cell (lo+1) HL1.out;have cf_at_:=HBf_1.out.cell (at_) (HFC.out at_ hat);have ff_at_:=HBf_1.out.free at_;by_cases hz:f at_=0
 ·have z1:=qs_is0 hz;have HZ:=Hi25 hz;clear hz;go_wp2_with fail;refine wp_name (fun W=>Mv X w (fun k=>k=lb∨k=fg) W/\Blk W (lb) (LC) tl/\Blk W (fg) ((FC).setIfInBounds at_ (.string ⟨#[48]⟩)) 34/\Blk W (bg) (BC) 34/\Blk W (w.heap.size) (#[.string (qs bc),.slice (some ⟨bg,0,none⟩) n bcap]) 182) ⟨(HX1.out.setCell (Or.inl (Or.inr rfl)) _),(HBl_1.out.other (a:=⟨fg,at_,none⟩) _ (HN1.out)),(HBf_1.out.set at_ (.string ⟨#[48]⟩)),(HBg_1.out.other (a:=⟨fg,at_,none⟩) _ (HN3.out)),(HB0_1.out.other (a:=⟨fg,at_,none⟩) _ (by have:=HFB.out.lt;first|omega|(simp only [];omega)|(simp;omega)))⟩ ?_;rintro w2 ⟨e2,bBl_2,bBf_2,bBg_2,bB0_2⟩;have HX2:=Hi25 e2;have HBl_2:=Hi25 bBl_2;have HBf_2:=Hi25 bBf_2;have HBg_2:=Hi25 bBg_2;have HB0_2:=Hi25 bB0_2;clear e2 bBl_2 bBf_2 bBg_2 bB0_2 cl_lo___1 cf_at_ ff_at_;go_wp2
  first|go_end0|((try simp only [Exit.inBlock,Exit.then]);refine bodyPost_ret (results_none rfl _ _ _) rfl ?_)
  exact ⟨rfl,HX2.out,_,HBl_2.out,by rw [HZ.out,Rat.zero_mul,Rat.add_zero];exact HL0.out,fun i _=>rfl,_,HBf_2.out,fun j hj=>by rw [HZ.out,Rat.zero_mul,Rat.add_zero];exact put_zero HFC.out hat j hj⟩
 ·have z1:=qs_not0 hz;clear hz;go_wp2_with fail;refine wp_name (fun W=>Mv X w (fun k=>k=lb∨k=fg) W/\Blk W (lb) (LC) tl/\Blk W (fg) ((FC).setIfInBounds at_ (.string ⟨#[48]⟩)) 34/\Blk W (bg) (BC) 34/\Blk W (w.heap.size) (#[.string (qs bc),.slice (some ⟨bg,0,none⟩) n bcap]) 182) ⟨(HX1.out.setCell (Or.inl (Or.inr rfl)) _),(HBl_1.out.other (a:=⟨fg,at_,none⟩) _ (HN1.out)),(HBf_1.out.set at_ (.string ⟨#[48]⟩)),(HBg_1.out.other (a:=⟨fg,at_,none⟩) _ (HN3.out)),(HB0_1.out.other (a:=⟨fg,at_,none⟩) _ (by have:=HFB.out.lt;first|omega|(simp only [];omega)|(simp;omega)))⟩ ?_;rintro w2 ⟨e2,bBl_2,bBf_2,bBg_2,bB0_2⟩;have HX2:=Hi25 e2;have HBl_2:=Hi25 bBl_2;have HBf_2:=Hi25 bBf_2;have HBg_2:=Hi25 bBg_2;have HB0_2:=Hi25 bB0_2;clear e2 bBl_2 bBf_2 bBg_2 bB0_2 cl_lo___1 cf_at_ ff_at_;refine region_e [.val (.pointer (some ⟨lb,lo,none⟩)),.val (.pointer (some ⟨lb,lo,none⟩)),.val (.pointer (some ⟨lb,lo,none⟩)),.val (.pointer (some ⟨lb,lo,none⟩)),.val (.string (qs c)),.val (.string (qs (f at_))),.val (.pointer (some ⟨w.heap.size,0,none⟩)),.val (.string (qs bc)),.val (.string (qs (f at_*bc))),.val (.string (qs (c+f at_*bc))),.val (.pointer (some ⟨lb,lo,none⟩)),.val (.pointer (some ⟨lb,lo,none⟩)),.eff] (fun L g W=>(if L 12=true then Blk W (lb) ((LC).setIfInBounds lo (.string (qs (c+f at_*bc)))) tl else Blk W (lb) (LC) tl)) (S:=fun k=>k=lb) (by kernel_rfl) (by kernel_rfl) (by kernel_rfl) (Mv.refl HX2.out.ext (fun k h=>(fun e=>Nat.le_trans (HX2.out.le (Or.inl (Or.inl rfl))) (Nat.le_of_eq e.symm)) h)) ?_ ?_ ?_ ?_ (fun gv_ w3 hm_ he_=>?_)
  ·exact fun gz_=>(by rw [if_neg (by decide)];exact HBl_2.out.drew)
  ·exact fun L g W W1 h e=>ite_ext (h) (fun h=>h.ext e) (fun h=>h.ext e)
  ·intro i v L g W hi h;have n12_:i≠12:=fun e=>by subst e;exact absurd (show false=true from hi) (by decide)
   simp only [up_ne n12_,ug_ne n12_];exact h
  ·skip
   refine RI 0 (.pointer (some ⟨lb,lo,none⟩))<|RI 0 (.pointer (some ⟨lb,lo,none⟩))<|R1 1<|R1 2 ?_;refine RV (fun A_ hs_ K_ hK_=>?_) ?_;· have q27_:=hs_.val 3;have n12_:=hs_.no 12 (by decide) (by kernel_rfl);have e12_:=hs_.e;rw [if_neg (by rw [n12_];decide)] at e12_;have cl_lo:=e12_.cell (lo) HL0.out;clear e12_ n12_;go_simp;exact fin_ hK_
   refine RI 6 (.string (qs (f at_)))<|RI 5 (.pointer (some ⟨w.heap.size,0,none⟩))<|J2 (fun hs_=>hs_.val 6) (fun hs_=>(hs_.mv.blk HB0_2.out (fun h=>((show w.heap.size≠lb from by have:=HLB.out.lt;first|omega|(simp only [];omega)|(simp;omega))) h)).cell 0 rfl) ?_;refine RV (fun A_ hs_ K_ hK_=>?_) ?_;· have q29_:=hs_.val 5;have q31_:=hs_.val 7;go_simp;refine (rmul_c (f at_) bc _ (HG.out.ext hs_.mv.ext) (HQ.out at_ hat) HQb.out (by omega) (by omega)).mono ?_;rintro e W9_ ⟨rfl,e9_⟩;exact hK_.out _ e9_
   refine RV (fun A_ hs_ K_ hK_=>?_) ?_;· have q28_:=hs_.val 4;have q32_:=hs_.val 8;go_simp;refine (radd_c c (f at_*bc) _ (HG.out.ext hs_.mv.ext) HQc.out ((HQ.out at_ hat).mul HQb.out) (by omega) (by omega)).mono ?_;rintro e W9_ ⟨rfl,e9_⟩;exact hK_.out _ e9_
   refine R1 0<|R1 10 ?_;refine RnEL.cons (fun L_ g_ A_ W_ hs_=>?_) ?_
   ·have q35_:=hs_.val 11;have q33_:=hs_.val 9;refine RnE.eff fun K_ hK_=>?_;have n_:=hs_.not;have e_:=hs_.e;rw [if_neg (by rw [n_];decide)] at e_;have c_0:=e_.cell (lo) HL0.out;have f_0:=e_.free lo;have HE_:=Hi25 e_;have HM_:=Hi25 hs_.mv;have HEE_:=Hi25 hs_.e;clear e_ n_;go_simp;exact hK_.out undef _ (HM_.out.setCell (Or.inl (rfl)) _) (by rw [up_at,if_pos rfl];exact (HE_.out.set lo _))
   exact RnEL.nil
  simp only [fse,Ke.value,puts,Act.put,List.setIfInBounds_toArray,List.set_cons_zero,List.set_cons_succ];have HX3:=Hi25 (HX2.out.comp hm_ (fun k h=>(fun e=>(by rw [e];exact (Or.inl (Or.inl rfl)))) h));have HBl_3:Hid (Blk w3 (lb) ((LC).setIfInBounds lo (.string (qs (c+f at_*bc)))) tl):=Hi25 (by have h_:=he_;rw [if_pos rfl] at h_;exact h_);have HBf_3:=Hi25 (hm_.blk HBf_2.out (fun h=>((show fg≠lb from fun h=>HN1.out h.symm)) h));have HBg_3:=Hi25 (hm_.blk HBg_2.out (fun h=>((show bg≠lb from HN2.out)) h));have HB0_3:=Hi25 (hm_.blk HB0_2.out (fun h=>((show w.heap.size≠lb from by have:=HLB.out.lt;first|omega|(simp only [];omega)|(simp;omega))) h));clear hm_ he_;obtain ⟨LC2,a2_,a3_,a4_⟩:∃ z,Blk w3 lb z tl/\z[lo]?=some (.string (qs (c+f at_*bc)))/\∀ i,i≠lo->z[i]?=LC[i]?:=⟨_,HBl_3.out,set_at HL0.out,fun i hi=>Array.getElem?_setIfInBounds_ne (Ne.symm hi)⟩
  obtain ⟨f0,a5_⟩:∃ f0:Nat->Rat,f0=fun j=>if j=at_ then 0 else f j:=⟨_,rfl⟩
  obtain ⟨FC2,a6_,a7_⟩:∃ z,Blk w3 fg z 34/\∀ j,j<n->z[j]?=some (.string (qs (f0 j))):=⟨_,HBf_3.out,fun j hj=>by rw [a5_];exact put_zero HFC.out hat j hj⟩
  have a8_:=(a4_ (lo+1) (by omega)).trans HL1.out;have HL2:=Hi25 a2_;have HLC2:=Hi25 a3_;have HLN:=Hi25 a4_;have HF0:=Hi25 a5_;have HF2:=Hi25 a6_;have HFC2:=Hi25 a7_;have HL3:=Hi25 a8_;have HQ0:Hid (∀ j,j<n->QB q (f0 j)):=Hi25 (fun j hj=>by rw [a5_];exact qb_ite (QB0.mono HQ1.out) (HQ.out j hj));clear a2_ a3_ a4_ a5_ a6_ a7_ a8_;have c0_1:=HB0_3.out.cell 1 rfl;go_wp2_with fail;clear c0_1;go_loopw [39] (fun x0_ wx=>∃ k:Nat,x0_ = .int .i64 k/\k<=n/\Hid (Mv X w (fun k=>k=lb∨k=fg) wx/\Blk wx (w.heap.size) (#[.string (qs bc),.slice (some ⟨bg,0,none⟩) n bcap]) 182/\Blk wx lb LC2 tl/\Blk wx bg BC 34/\∃ FK,Blk wx fg FK 34/\∀ j,j<n->FK[j]?=some (.string (qs (if j<k then f0 j+f at_*bf j else f0 j))))) (fun x0_ _=>n-(intOf x0_).toNat)
  case atStart=>exact ⟨0,rfl,Nat.zero_le _,Hi25 ⟨HX3.out,HB0_3.out,HL2.out,HBg_3.out,_,HF2.out,fun j hj=>by rw [if_neg (Nat.not_lt_zero _)];exact HFC2.out j hj⟩⟩
  case round =>
   rename World=>w4
   obtain ⟨k,rfl,hk,HH⟩:=hrel;have HX4:=Hi25 HH.out.1;have HB0_4:=Hi25 HH.out.2.1;have HBl_4:=Hi25 HH.out.2.2.1;have HBg_4:=Hi25 HH.out.2.2.2.1;obtain ⟨FK,a1_,a2_⟩:=HH.out.2.2.2.2;have HBf_4:=Hi25 a1_;have HFK:=Hi25 a2_;clear a1_ a2_ HH;by_cases hlt:k<n
   ·have hlt2:(k:Int)<(n:Int):=by omega
    have fk_:=HFK.out k hlt;rw [if_neg (by omega)] at fk_;have HFk:=Hi25 fk_;clear fk_;by_cases hy:bf k=0
    ·have z2:=qs_is0 hy;have HY:=Hi25 hy;clear hy;have cg_k:=HBg_4.out.cell (k) (HGC.out k hlt);go_wp2_with fail;go_roundw
     case rel=>exact ⟨k+1,by go_num,by omega,Hi25 ⟨HX4.out,HB0_4.out,HBl_4.out,HBg_4.out,_,HBf_4.out,put_round0 HFK.out HY.out⟩⟩
     case measure=>simp [intOf];omega
    ·have z2:=qs_not0 hy;clear hy;have cg_k:=HBg_4.out.cell (k) (HGC.out k hlt);go_wp2_with fail;clear cg_k;refine region_e [.val (.pointer (some ⟨lb,lo,none⟩)),.val (.pointer (some ⟨lb,lo,none⟩)),.val (.pointer (some ⟨lb,lo+1,none⟩)),.val (.slice (some ⟨fg,0,none⟩) n fcap),.val (.int .i64 (k:Int)),.val (.pointer (some ⟨lb,lo,none⟩)),.val (.pointer (some ⟨lb,lo,none⟩)),.val (.pointer (some ⟨lb,lo+1,none⟩)),.val (.slice (some ⟨fg,0,none⟩) n fcap),.val (.int .i64 (k:Int)),.val (.pointer (some ⟨fg,k,none⟩)),.val (.string (qs (f0 k))),.val (.string (qs (f at_))),.val (.string (qs (bf k))),.val (.string (qs (f at_*bf k))),.val (.string (qs (f0 k+f at_*bf k))),.val (.pointer (some ⟨fg,k,none⟩)),.eff] (fun L g W=>(if L 17=true then Blk W (fg) ((FK).setIfInBounds k (.string (qs (f0 k+f at_*bf k)))) 34 else Blk W (fg) (FK) 34)) (S:=fun k=>k=fg) (by kernel_rfl) (by kernel_rfl) (by kernel_rfl) (Mv.refl HX4.out.ext (fun k h=>(fun e=>Nat.le_trans (HX4.out.le (Or.inl (Or.inr rfl))) (Nat.le_of_eq e.symm)) h)) ?_ ?_ ?_ ?_ (fun gv_ w5 hm_ he_=>?_)
     ·exact fun gz_=>(by rw [if_neg (by decide)];exact HBf_4.out.drew)
     ·exact fun L g W W1 h e=>ite_ext (h) (fun h=>h.ext e) (fun h=>h.ext e)
     ·intro i v L g W hi h;have n17_:i≠17:=fun e=>by subst e;exact absurd (show false=true from hi) (by decide)
      simp only [up_ne n17_,ug_ne n17_];exact h
     ·skip
      refine RI 0 (.pointer (some ⟨lb,lo,none⟩))<|R1 0<|R1 1<|J2 (fun hs_=>hs_.val 2) (fun hs_=>(hs_.mv.blk HBl_4.out (fun h=>((show lb≠fg from HN1.out)) h)).cell (lo+1) HL3.out)<|RI 7 (.int .i64 (k:Int))<|RI 0 (.pointer (some ⟨lb,lo,none⟩))<|R1 5<|R1 6<|J2 (fun hs_=>hs_.val 7) (fun hs_=>(hs_.mv.blk HBl_4.out (fun h=>((show lb≠fg from HN1.out)) h)).cell (lo+1) HL3.out)<|RI 7 (.int .i64 (k:Int))<|R2 8 9 ?_;refine RV (fun A_ hs_ K_ hK_=>?_) ?_;· have q56_:=hs_.val 10;have n17_:=hs_.no 17 (by decide) (by kernel_rfl);have e17_:=hs_.e;rw [if_neg (by rw [n17_];decide)] at e17_;have cf_k:=e17_.cell (k) HFk.out;clear e17_ n17_;go_simp;exact fin_ hK_
      refine RI 6 (.string (qs (f at_)))<|RI 8 (.string (qs (bf k))) ?_;refine RV (fun A_ hs_ K_ hK_=>?_) ?_;· have q58_:=hs_.val 12;have q59_:=hs_.val 13;go_simp;refine (rmul_c (f at_) (bf k) _ (HG.out.ext hs_.mv.ext) (HQ.out at_ hat) (HQf.out k hlt) (by omega) (by omega)).mono ?_;rintro e W9_ ⟨rfl,e9_⟩;exact hK_.out _ e9_
      refine RV (fun A_ hs_ K_ hK_=>?_) ?_;· have q57_:=hs_.val 11;have q60_:=hs_.val 14;go_simp;refine (radd_c (f0 k) (f at_*bf k) _ (HG.out.ext hs_.mv.ext) (HQ0.out k hlt) ((HQ.out at_ hat).mul (HQf.out k hlt)) (by omega) (by omega)).mono ?_;rintro e W9_ ⟨rfl,e9_⟩;exact hK_.out _ e9_
      refine R2 3 4 ?_;refine RnEL.cons (fun L_ g_ A_ W_ hs_=>?_) ?_
      ·have q62_:=hs_.val 16;have q61_:=hs_.val 15;refine RnE.eff fun K_ hK_=>?_;have n_:=hs_.not;have e_:=hs_.e;rw [if_neg (by rw [n_];decide)] at e_;have c_0:=e_.cell (k) HFk.out;have f_0:=e_.free k;have HE_:=Hi25 e_;have HM_:=Hi25 hs_.mv;have HEE_:=Hi25 hs_.e;clear e_ n_;go_simp;exact hK_.out undef _ (HM_.out.setCell (Or.inl (rfl)) _) (by rw [up_at,if_pos rfl];exact (HE_.out.set k _))
      exact RnEL.nil
     simp only [fse,Ke.value,puts,Act.put,List.setIfInBounds_toArray,List.set_cons_zero,List.set_cons_succ];have HX5:=Hi25 (HX4.out.comp hm_ (fun k h=>(fun e=>(by rw [e];exact (Or.inl (Or.inr rfl)))) h));have HBl_5:=Hi25 (hm_.blk HBl_4.out (fun h=>((show lb≠fg from HN1.out)) h));have HBf_5:Hid (Blk w5 (fg) ((FK).setIfInBounds k (.string (qs (f0 k+f at_*bf k)))) 34):=Hi25 (by have h_:=he_;rw [if_pos rfl] at h_;exact h_);have HBg_5:=Hi25 (hm_.blk HBg_4.out (fun h=>((show bg≠fg from HN3.out)) h));have HB0_5:=Hi25 (hm_.blk HB0_4.out (fun h=>((show w.heap.size≠fg from by have:=HFB.out.lt;first|omega|(simp only [];omega)|(simp;omega))) h));clear hm_ he_;go_wp2_with fail;go_roundw
     case rel=>exact ⟨k+1,by go_num,by omega,Hi25 ⟨HX5.out,HB0_5.out,HBl_5.out,HBg_5.out,_,HBf_5.out,put_round HFK.out hlt⟩⟩
     case measure=>simp [intOf];omega
   ·have hk2:k=n:=by omega
    subst hk2;have hge:¬ (k:Int)<(k:Int):=by omega
    go_wp2
    first|go_end0|((try simp only [Exit.inBlock,Exit.then]);refine bodyPost_ret (results_none rfl _ _ _) rfl ?_)
    exact ⟨rfl,HX4.out,_,HBl_4.out,HLC2.out,HLN.out,_,HBf_4.out,fun j hj=>by have:=HFK.out j hj;rw [if_pos hj,HF0.out] at this;exact this⟩
end Go.Proofs.YtmahadmefplbnaaGreatDoor
