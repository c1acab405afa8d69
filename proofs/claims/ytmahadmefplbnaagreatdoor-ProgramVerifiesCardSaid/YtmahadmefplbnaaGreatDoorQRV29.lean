/- Part 29. -/
import Derived.Test.YtmahadmefplbnaaGreatDoorQRV28
set_option maxRecDepth 100000
set_option maxHeartbeats 2000000
set_option linter.unusedSimpArgs false
set_option linter.unusedVariables false
theorem Go.Proofs.YtmahadmefplbnaaGreatDoor.Hi29 {p:Prop} (h:p):Go.RowKit.Hid p:=h
namespace Go.Proofs.YtmahadmefplbnaaGreatDoor
open Go Go.RowKit
def nzq (f:Nat->Rat) (i:Nat):Bool:=decide (f i≠0)
def fi (is:Nat->Bool):Nat->Int
 | 0=>-1
 | k+1=>if 0<=fi is k then fi is k else if is k=true then (k:Int) else -1
theorem fi_miss {is:Nat->Bool}:∀ {n:Nat},(∀ i,i<n->is i=false)->fi is n=-1
 | 0,_=>rfl
 | n+1,h=>by rw [fi,fi_miss (fun i hi=>h i (by omega)),if_neg (by decide),if_neg (by rw [h n (by omega)];decide)]
theorem fi_hit {is:Nat->Bool} {k:Nat}:∀ {n:Nat},k<n->(∀ i,i<k->is i=false)->is k=true->fi is n=(k:Int)
 | 0,h,_,_=>by omega
 | n+1,h,h1,h2=>by
  by_cases e:k=n
  ·subst e;rw [fi,fi_miss h1,if_neg (by decide),if_pos h2]
  ·have:=fi_hit (n:=n) (by omega) h1 h2;rw [fi,this,if_pos (by omega)]
theorem fi_spec (is:Nat->Bool):∀ n:Nat,(fi is n=-1/\∀ i,i<n->is i=false)∨∃ k:Nat,k<n/\fi is n=(k:Int)/\is k=true/\∀ i,i<k->is i=false
 | 0=>Or.inl ⟨rfl,fun i hi=>by omega⟩
 | n+1=>by
  rcases fi_spec is n with ⟨h1,h2⟩|⟨k,h1,h2,h3,h4⟩
  ·by_cases h:is n=true
   ·exact Or.inr ⟨n,by omega,by rw [fi,h1,if_neg (by decide),if_pos h],h,h2⟩
   ·exact Or.inl ⟨by rw [fi,h1,if_neg (by decide),if_neg h],fun i hi=>by
     by_cases e:i=n
     ·rw [e];simpa using h
     ·exact h2 i (by omega)⟩
  ·exact Or.inr ⟨k,by omega,by rw [fi,h2,if_pos (by omega)],h3,h4⟩
theorem fi_step {is:Nat->Bool} {k:Nat} (h:∀ i,i<k->is i=false) (h2:is k=false) (i:Nat) (hi:i<k+1):is i=false:=by
 by_cases e:i=k
 ·rw [e];exact h2
 ·exact h i (by omega)
theorem rel1_c (xb at_ fn fcap:Nat) (cb:ByteArray) (fa:Addr) (x:Rat) (r:Bool) (w:World) (hB:Blk w xb #[.int .i64 (at_:Int)] 3) (hc:w.cell? (fa.add at_)=some (.string (qs x))) (hlt:at_<fn) (hr:decide (x≠0)=r):Calls Tryz.prog 197 #[.agg #[.string cb,.slice (some fa) fn fcap],.pointer (some ⟨xb,0,none⟩)] w (Ret w (.bool r)):=by
 have HBx:=Hi29 hB;have HC:=Hi29 hc;have HR:=Hi29 hr;clear hB hc hr;have hlt2:(at_:Int)<(fn:Int):=by omega
 go_enter Tryz.func197,Tryz.ntmps197;by_cases h:x≠0
 ·obtain rfl:r=true:=by rw [← HR.out];simpa using h
  have h1:=qs_not0 h;clear h;go_upto_region 1 with fail
  refine wp_name (fun W=>Ext w W/\Blk W (xb) (#[.int .i64 (at_:Int)]) 3/\Blk W (w.heap.size) (#[.string cb,.slice (some fa) fn fcap]) 182) ⟨((Ext.refl w).alloc _),(HBx.out.alloc _),(Blk.nw (#[.string cb,.slice (some fa) fn fcap]) 182)⟩ ?_;rintro w1 ⟨e1,bBx_1,bB0_1⟩;have HX1:=Hi29 e1;have HBx_1:=Hi29 bBx_1;have HB0_1:=Hi29 bB0_1;have HGEB0:Hid (w.heap.size<=w.heap.size):=Hi29 (Nat.le_refl _);clear e1 bBx_1 bB0_1;have c0_1:=HB0_1.out.cell 1 rfl;have cx_0:=HBx_1.out.cell (0) rfl;have cf_at_:=keepA HX1.out (HC.out);go_wp2;go_ret;exact ⟨rfl,HX1.out⟩
 ·obtain rfl:r=false:=by rw [← HR.out];simpa using h
  have h1:=qs_is0 (Classical.not_not.1 h);clear h;go_upto_region 1 with fail
  refine wp_name (fun W=>Ext w W/\Blk W (xb) (#[.int .i64 (at_:Int)]) 3/\Blk W (w.heap.size) (#[.string cb,.slice (some fa) fn fcap]) 182) ⟨((Ext.refl w).alloc _),(HBx.out.alloc _),(Blk.nw (#[.string cb,.slice (some fa) fn fcap]) 182)⟩ ?_;rintro w1 ⟨e1,bBx_1,bB0_1⟩;have HX1:=Hi29 e1;have HBx_1:=Hi29 bBx_1;have HB0_1:=Hi29 bB0_1;have HGEB0:Hid (w.heap.size<=w.heap.size):=Hi29 (Nat.le_refl _);clear e1 bBx_1 bB0_1;have c0_1:=HB0_1.out.cell 1 rfl;have cx_0:=HBx_1.out.cell (0) rfl;have cf_at_:=keepA HX1.out (HC.out);go_wp2;go_ret;exact ⟨rfl,HX1.out⟩
theorem rel2_c (xb at_ fn fcap:Nat) (cb:ByteArray) (fa:Addr) (x:Rat) (r:Bool) (w:World) (hB:Blk w xb #[.int .i64 (at_:Int)] 3) (hc:w.cell? (fa.add at_)=some (.string (qs x))) (hlt:at_<fn) (hr:decide (x≠0)=r):Calls Tryz.prog 199 #[.agg #[.string cb,.slice (some fa) fn fcap],.pointer (some ⟨xb,0,none⟩)] w (Ret w (.bool r)):=by
 have HBx:=Hi29 hB;have HC:=Hi29 hc;have HR:=Hi29 hr;clear hB hc hr;have hlt2:(at_:Int)<(fn:Int):=by omega
 go_enter Tryz.func199,Tryz.ntmps199;by_cases h:x≠0
 ·obtain rfl:r=true:=by rw [← HR.out];simpa using h
  have h1:=qs_not0 h;clear h;go_upto_region 1 with fail
  refine wp_name (fun W=>Ext w W/\Blk W (xb) (#[.int .i64 (at_:Int)]) 3/\Blk W (w.heap.size) (#[.string cb,.slice (some fa) fn fcap]) 182) ⟨((Ext.refl w).alloc _),(HBx.out.alloc _),(Blk.nw (#[.string cb,.slice (some fa) fn fcap]) 182)⟩ ?_;rintro w1 ⟨e1,bBx_1,bB0_1⟩;have HX1:=Hi29 e1;have HBx_1:=Hi29 bBx_1;have HB0_1:=Hi29 bB0_1;have HGEB0:Hid (w.heap.size<=w.heap.size):=Hi29 (Nat.le_refl _);clear e1 bBx_1 bB0_1;have c0_1:=HB0_1.out.cell 1 rfl;have cx_0:=HBx_1.out.cell (0) rfl;have cf_at_:=keepA HX1.out (HC.out);go_wp2;go_ret;exact ⟨rfl,HX1.out⟩
 ·obtain rfl:r=false:=by rw [← HR.out];simpa using h
  have h1:=qs_is0 (Classical.not_not.1 h);clear h;go_upto_region 1 with fail
  refine wp_name (fun W=>Ext w W/\Blk W (xb) (#[.int .i64 (at_:Int)]) 3/\Blk W (w.heap.size) (#[.string cb,.slice (some fa) fn fcap]) 182) ⟨((Ext.refl w).alloc _),(HBx.out.alloc _),(Blk.nw (#[.string cb,.slice (some fa) fn fcap]) 182)⟩ ?_;rintro w1 ⟨e1,bBx_1,bB0_1⟩;have HX1:=Hi29 e1;have HBx_1:=Hi29 bBx_1;have HB0_1:=Hi29 bB0_1;have HGEB0:Hid (w.heap.size<=w.heap.size):=Hi29 (Nat.le_refl _);clear e1 bBx_1 bB0_1;have c0_1:=HB0_1.out.cell 1 rfl;have cx_0:=HBx_1.out.cell (0) rfl;have cf_at_:=keepA HX1.out (HC.out);go_wp2;go_ret;exact ⟨rfl,HX1.out⟩
theorem ixl_g (ao_:Option Addr) (n cap fn:Nat) (cp:Array Value) (a b:Nat->Value) (is:Nat->Bool) (w:World) (hl:∀ i,i<n->∃ la o,ao_=some ⟨la,o,none⟩/\w.cell? ⟨la,o+i*2,none⟩=some (a i)/\w.cell? ⟨la,o+i*2+1,none⟩=some (b i)) (hcl:∀ W,Ext w W->∀ k:Nat,k<n->Calls Tryz.prog fn (#[.agg #[a k,b k]] ++ cp) W (Ret W (.bool (is k)))) (hn:n<=1000000) (hcf:∀ a_ W,(callFunc fn a_).run Tryz.prog W = .ok (.enter fn a_) W):Calls Tryz.prog 196 #[.slice ao_ n cap,.func (.func fn) #[] cp] w (Ret w (.int .i64 (fi is n))):=by
 have HL:=Hi29 hl;have HCL:=Hi29 hcl;clear hl hcl;go_enter Tryz.func196,Tryz.ntmps196;go_wp2_with fail;go_loopw [8] (fun x0_ wx=>∃ k:Nat,x0_ = .int .i64 k/\k<=n/\Hid (∀ i,i<k->is i=false)/\Hid (Ext w wx)) (fun x0_ _=>n-(intOf x0_).toNat)
 case atStart=>exact ⟨0,rfl,Nat.zero_le _,Hi29 (fun i hi=>absurd hi (Nat.not_lt_zero i)),Hi29 (Ext.refl w)⟩
 case round =>
  rename World=>w1
  obtain ⟨k,rfl,hkk,HGk,HH⟩:=hrel;have HX1:=Hi29 HH.out;clear HH;by_cases hlt:k<n
  ·have hlt2:(k:Int)<((n:Nat):Int):=by omega
   obtain ⟨la,o_,rfl,zl_,zm_⟩:=HL.out k hlt;have HCl:=Hi29 zl_;have HCm:=Hi29 zm_;clear zl_ zm_;by_cases hi:is k=true
   ·have HIS:=Hi29 hi;clear hi;have cl_o____k___2:=keepA HX1.out (HCl.out);have cl_o____k___2___1:=keepA HX1.out (HCm.out);go_wp2_with fail;refine ((HIS.out▸HCL.out _ HX1.out k hlt)).mono ?_;rintro e w2 ⟨rfl,e2⟩;have HX2:=Hi29 (HX1.out.trans e2);clear e2 cl_o____k___2 cl_o____k___2___1;go_wp2;go_ret;exact ⟨by rw [fi_hit hlt HGk.out HIS.out];rfl,HX2.out⟩
   ·have HIS:Hid (is k=false):=Hi29 (by simpa using hi);clear hi;have cl_o____k___2:=keepA HX1.out (HCl.out);have cl_o____k___2___1:=keepA HX1.out (HCm.out);go_wp2_with fail;refine ((HIS.out▸HCL.out _ HX1.out k hlt)).mono ?_;rintro e w2 ⟨rfl,e2⟩;have HX2:=Hi29 (HX1.out.trans e2);clear e2 cl_o____k___2 cl_o____k___2___1;go_wp2_with fail;go_roundw
    case rel=>exact ⟨k+1,by go_num,by omega,Hi29 (fi_step HGk.out HIS.out),Hi29 HX2.out⟩
    case measure=>simp [intOf];omega
  ·have hk2:k=n:=by omega
   have hge:¬ (k:Int)<((n:Nat):Int):=by omega
   go_wp2;go_ret;exact ⟨by rw [fi_miss (by rw [← hk2];exact HGk.out)];rfl,HX1.out⟩
def RelP (X:World) (P:LP) (p:Nat) (e:Ending) (w':World):Prop:=e = .returned (.tuple #[])/\Ext X w'/\∃ M',TA X P (P.rel P.first P.n) p M' w'
def nzf (T:Tab) (k i:Nat):Bool:=nzq (fun i=>T.f i k) i
def RowI (P:LP) (T:Tab) (k:Nat) (rr:Int):Prop:=(rr=-1/\P.rs T k P.m=-1)∨∃ r:Nat,rr=(r:Int)/\r<P.m/\T.f r k≠0/\P.rs T k r=-1
section
variable {P:LP} {T:Tab} {k r d:Nat}
theorem rs_none:∀ {n:Nat},(∀ i,i<n->T.f i k≠0->¬ P.n<=T.b i)->P.rs T k n=-1
 | 0,_=>rfl
 | n+1,h=>by rw [LP.rs,rs_none (fun i hi=>h i (by omega)),if_neg (by decide),if_neg (fun h'=>h n (by omega) h'.1 h'.2)]
theorem rs_not {n:Nat} (h:P.rs T k n=-1):∀ i,i<n->T.f i k≠0->¬ P.n<=T.b i:=fun i hi hf hb=>by
 rcases rs_spec P T k n with ⟨_,h2⟩|⟨r,_,h2,_⟩
 ·exact hf (h2 i hi hb)
 ·omega
theorem rs_hit (hr:r<P.m) (hf:T.f r k≠0) (hb:P.n<=T.b r) (hs:P.rs T k r=-1):P.rs T k P.m=(r:Int):=by
 have h1:P.rs T k (r+1)=(r:Int):=by rw [LP.rs,hs,if_neg (by decide),if_pos ⟨hf,hb⟩]
 have h2:∀ d,P.rs T k (r+1+d)=(r:Int):=fun d=>by
  induction d with
  | zero=>exact h1
  | succ d ih=>rw [← Nat.add_assoc,LP.rs,ih,if_pos (by omega)]
 have:=h2 (P.m-(r+1));rwa [show r+1+(P.m-(r+1))=P.m by omega] at this
theorem rowI_start (P:LP) (T:Tab) (k:Nat):RowI P T k (fi (nzf T k) P.m):=by
 rcases fi_spec (nzf T k) P.m with ⟨h1,h2⟩|⟨r,h1,h2,h3,h4⟩
 ·exact Or.inl ⟨h1,rs_none (fun i hi hf=>absurd hf (by simpa [nzf,nzq] using h2 i hi))⟩
 ·exact Or.inr ⟨r,h2,h1,by simpa [nzf,nzq] using h3,rs_none (fun i hi hf=>absurd hf (by simpa [nzf,nzq] using h4 i hi))⟩
theorem nx_ways (T:Tab) (k r m:Nat):fi (fun i=>nzf T k (r+1+i)) (m-(r+1))=-1∨∃ d:Nat,fi (fun i=>nzf T k (r+1+i)) (m-(r+1))=(d:Int)/\(d<m-(r+1)/\T.f (r+1+d) k≠0/\∀ i,i<d->T.f (r+1+i) k=0):=by
 rcases fi_spec (fun i=>nzf T k (r+1+i)) (m-(r+1)) with ⟨h1,h2⟩|⟨d,h1,h2,h3,h4⟩
 ·exact Or.inl h1
 ·exact Or.inr ⟨d,h2,h1,by simpa [nzf,nzq] using h3,fun i hi=>by simpa [nzf,nzq] using h4 i hi⟩
theorem rs_end (hr:r<P.m) (hf:T.f r k≠0) (hs:P.rs T k r=-1) (hb:¬ P.n<=T.b r) (hx:fi (fun i=>nzf T k (r+1+i)) (P.m-(r+1))=-1):P.rs T k P.m=-1:=by
 refine rs_none (fun i hi hfi=>?_);rcases fi_spec (fun i=>nzf T k (r+1+i)) (P.m-(r+1)) with ⟨_,h2⟩|⟨d,_,h2,_⟩
 ·rcases Nat.lt_trichotomy i r with h|h|h
  ·exact rs_not hs i h hfi
  ·rw [h];exact hb
  ·have:=h2 (i-(r+1)) (by omega);rw [show r+1+(i-(r+1))=i by omega] at this;exact absurd hfi (by simpa [nzf,nzq] using this)
 ·omega
theorem rowI_step (hr:r<P.m) (hf:T.f r k≠0) (hs:P.rs T k r=-1) (hb:¬ P.n<=T.b r) (hd:d<P.m-(r+1)/\T.f (r+1+d) k≠0/\∀ i,i<d->T.f (r+1+i) k=0):RowI P T k ((r:Int)+(1+(d:Int))) :=
 Or.inr ⟨r+1+d,by omega,by omega,hd.2.1,rs_none (fun i hi hfi=>by
  rcases Nat.lt_trichotomy i r with h|h|h
  ·exact rs_not hs i h hfi
  ·rw [h];exact hb
  ·have:=hd.2.2 (i-(r+1)) (by omega);rw [show r+1+(i-(r+1))=i by omega] at this;exact absurd this hfi)⟩
theorem rel1_none (h:P.rs T k P.m=-1):P.rel1 T k=T:=by rw [LP.rel1,if_pos (by omega)]
theorem rel1_piv (h:P.rs T k P.m=(r:Int)):P.rel1 T k=T.pivot r k:=by rw [LP.rel1,if_neg (by omega),h,Int.toNat_natCast]
theorem w64_in {n:Int} (h0:0<=n) (h1:n<=1000000000):wrap64 n=n:=by unfold wrap64;omega
theorem dm_lt {m:Nat} (h:d<m-(r+1)):r+1+d<m:=by omega
theorem w64_1 {m:Nat} (h:r+1+d<m) (hm:m<=1000):wrap64 (1+(d:Int))=1+(d:Int):=w64_in (by omega) (by omega)
theorem w64_2 {m:Nat} (h:r+1+d<m) (hm:m<=1000):wrap64 ((r:Int)+(1+(d:Int)))=(r:Int)+(1+(d:Int)):=w64_in (by omega) (by omega)
theorem rel_meas {m:Nat} (h:r+1+d<m):m-(intOf (.int .i64 ((r:Int)+(1+(d:Int))))).toNat<m-(intOf (.int .i64 (r:Int))).toNat:=by simp only [intOf];omega
theorem rel_start:RelI P P.first 0:=⟨P.first_inv,fun j hj _=>rfl,fun j hj=>by omega⟩
end
theorem slice_lines {M:TM} {P:LP} {r:Nat} (hr:r<P.m):∃ ao,(∀ W,(Instr.slice 183 (M.vl P) (some (.int .i64 ((r:Int)+1))) none none).run Tryz.prog W = .ok (.slice ao (P.m-(r+1)) (M.lc-(r+1))) W)/\∀ i,i<P.m-(r+1)->M.lc ≥ P.m->ao=some ⟨M.lb,(r+1)*2,none⟩:=by
 refine ⟨if M.lc=r+1 then oa P.m M.lb M.lx else (oa P.m M.lb M.lx).map (·.add ((r+1)*2)),fun W=>?_,fun i hi hc=>?_⟩
 ·rw [TM.vl,run_slice_l W 183 _ _ _ (by kernel_rfl) .i64 ((r:Int)+1) (by omega) (by omega)];have hs:(sizeOf (Tryz.prog.elem 183)).run Tryz.prog W = .ok 2 W:=by kernel_rfl
  have e:((r:Int)+1).toNat=r+1:=by omega
  rw [hs,e];simp only [Result.andThen,sliced]
 ·rw [if_neg (by omega),oa_pos (by omega)];simp [Addr.add]
section
variable {P:LP} {T:Tab} {p k r xb:Nat} {M:TM} {w X:World} {ao:Option Addr}
theorem tr_row {vb vl vo vw:Value} {vf:Nat->Value} (h:TR P T w p vb vl vo vw vf) (hk:k<P.n) {i:Nat} (hi:i<P.m):∃ fa fn fcap,vf i = .slice (some fa) fn fcap/\k<fn/\w.cell? (fa.add k)=some (.string (qs (T.f i k))):=by
 obtain ⟨fo,fcap,e,_,_,hh⟩:=h.f i hi;obtain ⟨fa,rfl,z⟩:=hh k hk;exact ⟨fa,_,fcap,e,hk,z⟩
theorem rel1_t {vb vl vo vw:Value} {vf:Nat->Value} {W:World} {i:Nat} (h:TR P T w p vb vl vo vw vf) (hk:k<P.n) (hi:i<P.m) (e:Ext w W) (hB:Blk w xb #[.int .i64 (k:Int)] 3) :
    Calls Tryz.prog 197 #[.agg #[.string (qs (T.c i)),vf i],.pointer (some ⟨xb,0,none⟩)] W (Ret W (.bool (nzf T k i))):=by
 obtain ⟨fa,fn,fcap,ev,h1,h2⟩:=tr_row h hk hi;rw [ev];exact rel1_c xb k fn fcap _ fa _ _ W (hB.ext e) (keepA e h2) h1 rfl
theorem rel2_t {vb vl vo vw:Value} {vf:Nat->Value} {W:World} {i:Nat} (h:TR P T w p vb vl vo vw vf) (hk:k<P.n) (hi:i<P.m) (e:Ext w W) (hB:Blk w xb #[.int .i64 (k:Int)] 3) :
    Calls Tryz.prog 199 #[.agg #[.string (qs (T.c i)),vf i],.pointer (some ⟨xb,0,none⟩)] W (Ret W (.bool (nzf T k i))):=by
 obtain ⟨fa,fn,fcap,ev,h1,h2⟩:=tr_row h hk hi;rw [ev];exact rel2_c xb k fn fcap _ fa _ _ W (hB.ext e) (keepA e h2) h1 rfl
theorem ixl1_t (h:TA X P T p M w) (hB:Blk w xb #[.int .i64 (k:Int)] 3) (hk:k<P.n) (hm:P.m<=1000) :
    Calls Tryz.prog 196 #[M.vl P,.func (.func 197) #[] #[.pointer (some ⟨xb,0,none⟩)]] w (Ret w (.int .i64 (fi (nzf T k) P.m))):=by
 obtain ⟨ao,cap,e,_,_,hh⟩:=h.tr.l;rw [e];exact ixl_g ao P.m cap _ _ (fun i => .string (qs (T.c i))) (M.vf P) _ w (fun i hi=>let ⟨lb,e1,e2,e3⟩:=hh i hi;⟨lb,0,e1,by rw [Nat.zero_add];exact e2,by rw [Nat.zero_add];exact e3⟩) (fun W e i hi=>by rw [arr2];exact rel1_t h.tr hk hi e hB) (by omega) (fun _ _=>by kernel_rfl)
theorem ixl2_t (h:TA X P T p M w) (hB:Blk w xb #[.int .i64 (k:Int)] 3) (hao:∀ i,i<P.m-(r+1)->M.lc ≥ P.m->ao=some ⟨M.lb,(r+1)*2,none⟩) (hr:r<P.m) (hk:k<P.n) (hm:P.m<=1000) :
    Calls Tryz.prog 196 #[.slice ao (P.m-(r+1)) (M.lc-(r+1)),.func (.func 199) #[] #[.pointer (some ⟨xb,0,none⟩)]] w (Ret w (.int .i64 (fi (fun i=>nzf T k (r+1+i)) (P.m-(r+1))))):=by
 obtain ⟨CL,b,hl⟩:=h.mem.lin (by omega);refine ixl_g ao (P.m-(r+1)) (M.lc-(r+1)) _ _ (fun i => .string (qs (T.c (r+1+i)))) (fun i=>M.vf P (r+1+i)) _ w (fun i hi=>⟨M.lb,(r+1)*2,hao i hi h.mem.caps.l.1,?_,?_⟩) (fun W e i hi=>by rw [arr2];exact rel2_t h.tr hk (by omega) e hB) (by omega) (fun _ _=>by kernel_rfl)
 ·rw [← Nat.add_mul];exact b.cell _ (hl _ (by omega)).1
 ·rw [← Nat.add_mul];exact b.cell _ (hl _ (by omega)).2
end
theorem clone_t {P:LP} {p:Nat} {M:TM} {w X:World} (h:TA X P P.first p M w) (hn0:0<P.n) (hn:P.n<=1000):Calls Tryz.prog 195 #[M.vo P] w fun e w'=>∃ (cc k:Nat) (C:Array Value),e = .returned (.slice (some ⟨k,0,none⟩) P.n cc)/\Ext w w'/\w.heap.size<=k/\Blk w' k C 3/\∀ j,j<P.n->C[j]?=some (.int .i64 (j:Int)):=by
 obtain ⟨CO,hb,hc⟩:=h.mem.oth hn0;rw [TM.vo,oa_pos hn0];refine (Tryz.slices_Clone_int M.ob 0 P.n M.oc ((List.range P.n).map (fun j=>((j:Nat):Int))) w (by simp) (by omega) (fun j hj=>?_)).mono ?_
 ·have hj2:j<P.n:=by simpa using hj
  rw [Nat.zero_add,hb.cell j (hc j hj2)];simp [LP.first,List.getD,hj2]
 ·rintro e w' ⟨v,rfl,ho,hv,hB⟩;rcases ho.2 with ⟨rfl,_⟩|⟨g,cap,cur,rfl,hg,hh,h1,h2,h3,h4⟩
  ·exact absurd rfl hv
  ·refine ⟨cap,g,cur,rfl,hB,hg,⟨hh⟩,fun j hj=>?_⟩;have e1:(cur.toList.take (P.n*1))[j]?=some (.int .i64 (j:Int)):=by rw [h4];simp [hj]
   rw [List.getElem?_take,if_pos (by omega)] at e1;simpa using e1
theorem release_pos (P:LP) (p:Nat) (M:TM) (q:Nat) (X w:World) (g:Gd X) (hX:Ext X w) (hT:TA X P P.first p M w) (SZ:Szd P q) (hn:P.n<=1000) (hm:P.m<=1000) (hq1:1<=q) (hq2:q<=400) (hn0:0<P.n):Calls Tryz.prog 122 #[.pointer (some ⟨p,0,none⟩)] w (RelP X P p):=by
 have HG:=Hi29 g;have HBT:=Hi29 hT;clear g hT;have HX0:Hid (Mv X w (fun k=>X.heap.size<=k) w):=Hi29 (Mv.refl hX (fun k h=>h));clear hX;go_enter Tryz.func122,Tryz.ntmps122;have cT_3:=HBT.out.c3;go_wp2_with fail;refine (clone_t HBT.out hn0 hn).mono ?_;rintro e w1 ⟨cc,kc,CC,rfl,e1,g_,b_,c_⟩;have HX1:=Hi29 (HX0.out.trans e1);have HBT_1:=Hi29 (HBT.out.ext e1);clear e1 cT_3;have HBc_1:=Hi29 b_;have HCC:=Hi29 c_;have HGEBc:Hid (w.heap.size<=kc):=Hi29 g_;have HNEC:Hid (∀ k,M.S p P.m k->k≠kc):=Hi29 (HBT.out.ne g_);clear b_ c_ g_;go_wp2_with fail;go_loopw [12] (fun x0_ wx=>∃ k:Nat,x0_ = .int .i64 k/\k<=P.n/\Hid (Mv X w (fun k=>X.heap.size<=k) wx/\Blk wx (kc) (CC) 3/\(∃ M1,TA X P (P.rel P.first k) p M1 wx/\∀ q,M1.S p P.m q->q≠kc))) (fun x0_ _=>P.n-(intOf x0_).toNat)
 case atStart=>exact ⟨0,rfl,Nat.zero_le _,Hi29 ⟨HX1.out,HBc_1.out,⟨M,HBT_1.out,HNEC.out⟩⟩⟩
 case round =>
  rename World=>w2
  obtain ⟨k,rfl,hkk,HH⟩:=hrel;have HX2:=Hi29 HH.out.1;have HBc_2:=Hi29 HH.out.2.1;obtain ⟨M1,a1_,a2_⟩:=HH.out.2.2;obtain ⟨T1,eT⟩:∃ T1,P.rel P.first k=T1:=⟨_,rfl⟩
  rw [eT] at a1_;have HT1:=Hi29 eT;clear eT;have HBT_2:=Hi29 a1_;have HNEC2:=Hi29 a2_;clear a1_ a2_;have HRI:Hid (RelI P T1 k):=Hi29 (HT1.out▸RelI.all rel_start k hkk);have HTQ:=Hi29 (SZ T1 HRI.out.inv);clear HH;by_cases hlt:k<P.n
  ·have hlt2:(k:Int)<((P.n:Nat):Int):=by omega
   have HOK:Hid (T1.o k=k):=Hi29 (HRI.out.rest k hlt (Nat.le_refl _));have hkn:¬ P.n<=k:=by omega
   have HKN:=Hi29 hkn;have cc_k:=HBc_2.out.cell (k) (HCC.out k hlt);go_upto_region 3 with fail
   have HNEBTB0:Hid (∀ q_,M1.S p P.m q_->q_≠w2.heap.size):=Hi29 (HBT_2.out.ne (by first|omega|(simp only [];omega)|(simp;omega)));refine wp_name (fun W=>Mv X w (fun k=>X.heap.size<=k) W/\TA X P T1 p M1 W/\Blk W (kc) (CC) 3/\Blk W (w2.heap.size) (#[.int .i64 (k:Int)]) 3) ⟨(HX2.out.alloc _),(HBT_2.out.alloc _),(HBc_2.out.alloc _),(Blk.nw (#[.int .i64 (k:Int)]) 3)⟩ ?_;rintro w3 ⟨e3,bBT_3,bBc_3,bB0_3⟩;have HX3:=Hi29 e3;have HBT_3:=Hi29 bBT_3;have HBc_3:=Hi29 bBc_3;have HB0_3:=Hi29 bB0_3;have HGEB0:Hid (w.heap.size<=w2.heap.size):=Hi29 (HX2.out.size);clear e3 bBT_3 bBc_3 bB0_3 cc_k;have cT_2:=HBT_3.out.c2;go_wp2_with fail;refine (ixl1_t (HBT_3.out) (HB0_3.out) hlt hm).mono ?_;rintro e w4 ⟨rfl,e4⟩;have HX4:=Hi29 (HX3.out.trans e4);have HBT_4:=Hi29 (HBT_3.out.ext e4);have HBc_4:=Hi29 (HBc_3.out.ext e4);have HB0_4:=Hi29 (HB0_3.out.ext e4);clear e4 cT_2;go_wp2_with fail;go_loopw [4] (fun x0_ wx=>∃ rr:Int,x0_ = .int .i64 rr/\Hid (RowI P T1 k rr)/\Hid (Mv X w (fun k=>X.heap.size<=k) wx/\Blk wx (w2.heap.size) (#[.int .i64 (k:Int)]) 3/\Blk wx (kc) (CC) 3/\TA X P T1 p M1 wx)) (fun x0_ _=>P.m-(intOf x0_).toNat)
   case atStart=>exact ⟨_,rfl,Hi29 (rowI_start P T1 k),Hi29 ⟨HX4.out,HB0_4.out,HBc_4.out,HBT_4.out⟩⟩
   case round =>
    rename World=>w5
    obtain ⟨rr,rfl,HRR,HH⟩:=hrel;have HX5:=Hi29 HH.out.1;have HB0_5:=Hi29 HH.out.2.1;have HBc_5:=Hi29 HH.out.2.2.1;have HBT_5:=Hi29 HH.out.2.2.2;clear HH;rcases HRR.out with ⟨rfl,hs⟩|⟨r,rfl,hr,hf,hs⟩
    ·have HRS:=Hi29 hs;clear hs;go_wp2_with fail;go_roundw
     case rel=>exact ⟨k+1,by go_num,by omega,Hi29 ⟨HX5.out,HBc_5.out,⟨M1,by rw [LP.rel,HT1.out,rel1_none HRS.out];exact HBT_5.out,HNEC2.out⟩⟩⟩
     case measure=>simp [intOf];omega
    ·have HR:=Hi29 hr;have HFR:=Hi29 hf;have HRS:=Hi29 hs;clear hr hf hs;have hr0:(0:Int)<=(r:Int):=by omega
     obtain ⟨bo,bc,eb_,_,_,hb_⟩:=HBT_5.out.tr.b;obtain ⟨ba,rfl,zb_⟩:=hb_ r HR.out;have HEB:=Hi29 eb_;have HCb:=Hi29 zb_;clear eb_ zb_ hb_;have hr3:(r:Int)<(P.m:Int):=by have:=HR.out;omega
     by_cases h1:P.n<=T1.b r
     ·have h1p:=Hi29 h1;clear h1;have HPIV:Hid (P.rs T1 k P.m=(r:Int)):=Hi29 (rs_hit HR.out HFR.out h1p.out HRS.out);have cT_1:=(HEB.out▸HBT_5.out.c1)
      have cb_r:=HCb.out;go_wp2_with fail;refine (slack_t (HBT_5.out) (T1.b r) true (by have:=h1p.out;simp;omega)).mono ?_;rintro e _ ⟨rfl,rfl⟩;clear cT_1 cb_r;go_wp2_with fail;refine (slack_t (HBT_5.out) k false (by have:=HKN.out;simp;omega)).mono ?_;rintro e _ ⟨rfl,rfl⟩;have c0_0:=HB0_5.out.cell 0 rfl;go_wp2_with fail;refine (pivot_t HG.out HX5.out.ext HBT_5.out HR.out hlt HFR.out hn hm hq1 hq2 HTQ.out).mono ?_;rintro e w6 ⟨rfl,m_,kz,g_,t_⟩;have HX6:Hid (Mv X w (fun k=>X.heap.size<=k) w6):=Hi29 (HX5.out.comp m_ (fun k hk=>Or.inl (HBT_5.out.up k hk)));have HBc_6:Hid (Blk w6 (kc) (CC) 3):=Hi29 (m_.blk HBc_5.out (fun hk=>HNEC2.out _ hk rfl));have HNPBc:Hid (∀ k,(M1.piv r kz P.n).S p P.m k->k≠kc):=Hi29 (TM.piv_ne HNEC2.out HBc_5.out.lt g_);have HB0_6:Hid (Blk w6 (w2.heap.size) (#[.int .i64 (k:Int)]) 3):=Hi29 (m_.blk HB0_5.out (fun hk=>HNEBTB0.out _ hk rfl));have HNPB0:Hid (∀ k,(M1.piv r kz P.n).S p P.m k->k≠w2.heap.size):=Hi29 (TM.piv_ne HNEBTB0.out HB0_5.out.lt g_);have HBT_6:=Hi29 t_;clear m_ g_ t_ c0_0;go_wp2_with fail;go_roundw
      case rel=>exact ⟨k+1,by go_num,by omega,Hi29 ⟨HX6.out,HBc_6.out,⟨(M1.piv r kz P.n),by rw [LP.rel,HT1.out,rel1_piv HPIV.out];exact HBT_6.out,HNPBc.out⟩⟩⟩
      case measure=>simp [intOf];omega
     ·have h1p:=Hi29 h1;clear h1;have cT_1:=(HEB.out▸HBT_5.out.c1)
      have cb_r:=HCb.out;go_wp2_with fail;refine (slack_t (HBT_5.out) (T1.b r) false (by have:=h1p.out;simp;omega)).mono ?_;rintro e _ ⟨rfl,rfl⟩;clear cT_1 cb_r;go_upto_region 5 with fail
      obtain ⟨ao,hsl,hao⟩:=slice_lines (M:=M1) (P:=P) (r:=r) HR.out;have HAO:=Hi29 hao;clear hao;rcases nx_ways T1 k r P.m with hx|⟨d,hx,hd⟩
      ·have HNX:=Hi29 hx;have HRS2:Hid (P.rs T1 k P.m=-1):=Hi29 (rs_end HR.out HFR.out HRS.out h1p.out hx);clear hx HRS;have HRS:=HRS2;have cT_2:=HBT_5.out.c2;go_wp2_with fail;refine ((HNX.out▸ixl2_t (HBT_5.out) (HB0_5.out) HAO.out HR.out hlt hm)).mono ?_;rintro e w6 ⟨rfl,e6⟩;have HX6:=Hi29 (HX5.out.trans e6);have HBT_6:=Hi29 (HBT_5.out.ext e6);have HBc_6:=Hi29 (HBc_5.out.ext e6);have HB0_6:=Hi29 (HB0_5.out.ext e6);clear e6 cT_2;go_wp2_with fail;go_roundw
       case rel=>exact ⟨k+1,by go_num,by omega,Hi29 ⟨HX6.out,HBc_6.out,⟨M1,by rw [LP.rel,HT1.out,rel1_none HRS.out];exact HBT_6.out,HNEC2.out⟩⟩⟩
       case measure=>simp [intOf];omega
      ·have HNX:=Hi29 hx;have HD:=Hi29 hd;have HDM:Hid (r+1+d<P.m):=Hi29 (dm_lt hd.1);have hd0:¬ (d:Int)<0:=Int.not_lt.2 (Int.natCast_nonneg d);have hw1:=w64_1 HDM.out hm;have hw2:=w64_2 HDM.out hm;clear hx hd;have cT_2:=HBT_5.out.c2;go_wp2_with fail;refine ((HNX.out▸ixl2_t (HBT_5.out) (HB0_5.out) HAO.out HR.out hlt hm)).mono ?_;rintro e w6 ⟨rfl,e6⟩;have HX6:=Hi29 (HX5.out.trans e6);have HBT_6:=Hi29 (HBT_5.out.ext e6);have HBc_6:=Hi29 (HBc_5.out.ext e6);have HB0_6:=Hi29 (HB0_5.out.ext e6);clear e6 cT_2;go_wp2_with fail;go_roundw
       case rel=>exact ⟨(r:Int)+(1+(d:Int)),by go_num,Hi29 (rowI_step HR.out HFR.out HRS.out h1p.out HD.out),Hi29 ⟨HX6.out,HB0_6.out,HBc_6.out,HBT_6.out⟩⟩
       case measure=>rw [hw2];exact rel_meas HDM.out
  ·have hk2:k=P.n:=by omega
   have hge:¬ (k:Int)<((P.n:Nat):Int):=by omega
   go_wp2
   first|go_end0|((try simp only [Exit.inBlock,Exit.then]);refine bodyPost_ret (results_none rfl _ _ _) rfl ?_)
   exact ⟨rfl,HX2.out.ext,M1,by rw [← hk2,HT1.out];exact HBT_2.out⟩
def lg (P:LP) (vf:Nat->Value) (c:Nat):Value:=if c % 2=0 then .string (qs (P.B (c / 2))) else vf (c / 2)
theorem lg0 {P:LP} {vf:Nat->Value} {i:Nat}:lg P vf (i*2) = .string (qs (P.B i)):=by
 have h1:i*2 % 2=0:=by omega
 have h2:i*2 / 2=i:=by omega
 rw [lg,if_pos h1,h2]
theorem lg1 {P:LP} {vf:Nat->Value} {i:Nat}:lg P vf (i*2+1)=vf i:=by
 have h1:¬ (i*2+1) % 2=0:=by omega
 have h2:(i*2+1) / 2=i:=by omega
 rw [lg,if_neg h1,h2]
theorem vob_blk {X w:World} {t:TypeId} {sz n:Nat} {v:Value} {G:Nat->Value} (h:Osl X w t sz v n G) {k:Nat} (hk:vob v k):∃ C,Blk w k C t:=by
 rcases h with ⟨h,_⟩|⟨k',cap,C,h1,h2,h3,_⟩
 ·rw [h] at hk;exact absurd hk vob_nil
 ·rw [h1] at hk;rw [← vob_some.1 hk];exact ⟨C,h3⟩
theorem vob_ne {w:World} {t t':TypeId} {k k':Nat} {C C':Array Value} (h:Blk w k C t) (h':Blk w k' C' t') (ht:t≠t'):k≠k':=h.ne h' ht
theorem Osl.apart {X w:World} {t t':TypeId} {sz sz' n n':Nat} {v v':Value} {G G':Nat->Value} (h:Osl X w t sz v n G) (h':Osl X w t' sz' v' n' G') (ht:t≠t'):∀ k,vob v k->¬ vob v' k:=fun k a b =>
 let ⟨_,x⟩:=vob_blk h a;let ⟨_,y⟩:=vob_blk h' b;vob_ne x y ht rfl
theorem Osl.other {X w:World} {t:TypeId} {sz n:Nat} {v:Value} {G:Nat->Value} (h:Osl X w t sz v n G) {a:Addr} (u:Value) (hk:¬ vob v a.block):Osl X (w.setCell a u) t sz v n G:=by
 rcases h with h|⟨k,cap,C,h1,h2,h3,h4⟩
 ·exact Or.inl h
 ·exact Or.inr ⟨k,cap,C,h1,h2,h3.other u (fun e=>hk (by rw [h1];exact vob_some.2 e)),h4⟩
theorem Osl.not_vob {X w:World} {t t':TypeId} {sz n:Nat} {v:Value} {G:Nat->Value} (h:Osl X w t sz v n G) {k:Nat} {C:Array Value} (hB:Blk w k C t') (ht:t≠t'):¬ vob v k:=fun hk =>
 let ⟨_,x⟩:=vob_blk h hk;vob_ne x hB ht rfl
structure OS (X:World) (P:LP) (p:Nat) (c1 c2 c3 vb:Value) (nb:Nat) (vl:Value) (nl nf:Nat) (vo:Value) (no:Nat) (vw:Value) (vf:Nat->Value) (W:World):Prop where
 tab:Blk W p #[.int .i64 (P.n:Int),c1,c2,c3,.string ⟨#[48]⟩,vw] 185
 up:X.heap.size<=p
 b:Osl X W 3 1 vb nb (fun i => .int .i64 ((P.n:Int)+(i:Int)))
 l:Osl X W 182 2 vl nl (lg P vf)
 o:Osl X W 3 1 vo no (fun j => .int .i64 (j:Int))
 w:Osl X W 34 1 vw P.n (fun j => .string (qs (P.C j)))
 f:∀ i,i<nf->Osl X W 34 1 (vf i) P.n (fun j => .string (qs (-P.A i j)))
 bo:∀ k,vob vb k->¬ vob vo k
 fw:∀ i,i<nf->∀ k,vob (vf i) k->¬ vob vw k
 ff:∀ i i',i<nf->i'<nf->i≠i'->∀ k,vob (vf i) k->¬ vob (vf i') k
def OD (p:Nat) (vb vl vo vw:Value) (vf:Nat->Value) (nf k:Nat):Prop:=k=p∨vob vb k∨vob vl k∨vob vo k∨vob vw k∨∃ i,i<nf/\vob (vf i) k
section
variable {X W W':World} {P:LP} {p nb nl nf no:Nat} {c1 c2 c3 vb vl vo vw v':Value} {vf:Nat->Value} {H:Nat->Value}
theorem OS.map (h:OS X P p c1 c2 c3 vb nb vl nl nf vo no vw vf W) (ht:∀ C,Blk W p C 185->Blk W' p C 185) (hk:∀ k C t,t≠185->Blk W k C t->Blk W' k C t):OS X P p c1 c2 c3 vb nb vl nl nf vo no vw vf W':=by
 have m:∀ {t:TypeId} {sz n:Nat} {v:Value} {G:Nat->Value},t≠185->Osl X W t sz v n G->Osl X W' t sz v n G:=fun ht h=>by
  rcases h with h|⟨k,cap,C,h1,h2,h3,h4⟩
  ·exact Or.inl h
  ·exact Or.inr ⟨k,cap,C,h1,h2,hk _ _ _ ht h3,h4⟩
 exact ⟨ht _ h.tab,h.up,m (by decide) h.b,m (by decide) h.l,m (by decide) h.o,m (by decide) h.w,fun i hi=>m (by decide) (h.f i hi),h.bo,h.fw,h.ff⟩
theorem OS.ext (h:OS X P p c1 c2 c3 vb nb vl nl nf vo no vw vf W) (e:Ext W W'):OS X P p c1 c2 c3 vb nb vl nl nf vo no vw vf W':=h.map (fun _ b=>b.ext e) (fun _ _ _ _ b=>b.ext e)
theorem OS.mv {Y:World} {S:Nat->Prop} (h:OS X P p c1 c2 c3 vb nb vl nl nf vo no vw vf W) (m:Mv Y W S W') (h0:¬ S p) (h1:∀ k,vob vb k->¬ S k) (h2:∀ k,vob vl k->¬ S k) (h3:∀ k,vob vo k->¬ S k) (h4:∀ k,vob vw k->¬ S k)
    (h5:∀ i,i<nf->∀ k,vob (vf i) k->¬ S k):OS X P p c1 c2 c3 vb nb vl nl nf vo no vw vf W' :=
 ⟨m.blk h.tab h0,h.up,h.b.mv m h1,h.l.mv m h2,h.o.mv m h3,h.w.mv m h4,fun i hi=>(h.f i hi).mv m (h5 i hi),h.bo,h.fw,h.ff⟩
theorem OS.alloc (h:OS X P p c1 c2 c3 vb nb vl nl nf vo no vw vf W) (o:Obj):OS X P p c1 c2 c3 vb nb vl nl nf vo no vw vf (W.alloc o):=h.ext ((Ext.refl _).alloc o)
theorem OS.drew (h:OS X P p c1 c2 c3 vb nb vl nl nf vo no vw vf W):OS X P p c1 c2 c3 vb nb vl nl nf vo no vw vf W.drew:=h.ext (Ext.refl _).drew
theorem OS.lt (h:OS X P p c1 c2 c3 vb nb vl nl nf vo no vw vf W):∀ k,OD p vb vl vo vw vf nf k->k<W.heap.size:=fun k hk=>by
 rcases hk with rfl|hk|hk|hk|hk|⟨i,hi,hk⟩
 ·exact h.tab.lt
 ·exact (h.b.lt hk).2
 ·exact (h.l.lt hk).2
 ·exact (h.o.lt hk).2
 ·exact (h.w.lt hk).2
 ·exact ((h.f i hi).lt hk).2
theorem OS.ne (h:OS X P p c1 c2 c3 vb nb vl nl nf vo no vw vf W) {b:Nat} (hb:W.heap.size<=b):∀ k,OD p vb vl vo vw vf nf k->k≠b:=fun k hk e=>by have:=h.lt k hk;omega
theorem OS.mvd {Y:World} {S:Nat->Prop} (h:OS X P p c1 c2 c3 vb nb vl nl nf vo no vw vf W) (m:Mv Y W S W') (hs:∀ k,OD p vb vl vo vw vf nf k->¬ S k):OS X P p c1 c2 c3 vb nb vl nl nf vo no vw vf W' :=
 h.mv m (hs _ (Or.inl rfl)) (fun k hk=>hs k (Or.inr (Or.inl hk))) (fun k hk=>hs k (Or.inr (Or.inr (Or.inl hk)))) (fun k hk=>hs k (Or.inr (Or.inr (Or.inr (Or.inl hk))))) (fun k hk=>hs k (Or.inr (Or.inr (Or.inr (Or.inr (Or.inl hk)))))) (fun i hi k hk=>hs k (Or.inr (Or.inr (Or.inr (Or.inr (Or.inr ⟨i,hi,hk⟩))))))
theorem OS.other (h:OS X P p c1 c2 c3 vb nb vl nl nf vo no vw vf W) {a:Addr} (u:Value) (hk:∀ k,OD p vb vl vo vw vf nf k->k≠a.block):OS X P p c1 c2 c3 vb nb vl nl nf vo no vw vf (W.setCell a u) :=
 ⟨h.tab.other u (hk _ (Or.inl rfl)),h.up,h.b.other u (fun e=>hk _ (Or.inr (Or.inl e)) rfl),h.l.other u (fun e=>hk _ (Or.inr (Or.inr (Or.inl e))) rfl),h.o.other u (fun e=>hk _ (Or.inr (Or.inr (Or.inr (Or.inl e)))) rfl),
  h.w.other u (fun e=>hk _ (Or.inr (Or.inr (Or.inr (Or.inr (Or.inl e))))) rfl),fun i hi=>(h.f i hi).other u (fun e=>hk _ (Or.inr (Or.inr (Or.inr (Or.inr (Or.inr ⟨i,hi,e⟩))))) rfl),h.bo,h.fw,h.ff⟩
theorem OS.appb (h:OS X P p c1 c2 c3 vb nb vl nl nf vo no vw vf W) (a:App X W 3 1 vb nb 1 (fun i => .int .i64 ((P.n:Int)+(i:Int))) H v' W') (hH:H 0 = .int .i64 ((P.n:Int)+(nb:Int))):OS X P p c1 c2 c3 v' (nb+1) vl nl nf vo no vw vf W' where
 tab:=a.mv.blk h.tab (h.b.not_vob h.tab (by decide))
 up:=h.up
 b:=a.own.congr (fun i hi=>by
  by_cases e:i<nb
  ·rw [app_lt (by omega)]
  ·have:i=nb:=by omega
   subst this;rw [app_ge (by omega),show i-i*1=0 by omega,hH])
 l:=h.l.mv a.mv (fun k hk hb=>(h.l.apart h.b (by decide)) k hk hb)
 o:=h.o.mv a.mv (fun k hk hb=>h.bo k hb hk)
 w:=h.w.mv a.mv (fun k hk hb=>(h.w.apart h.b (by decide)) k hk hb)
 f:=fun i hi=>(h.f i hi).mv a.mv (fun k hk hb=>((h.f i hi).apart h.b (by decide)) k hk hb)
 bo:=fun k hk ho=>(a.new k hk).elim (fun hb=>h.bo k hb ho) (fun hn=>by have:=(h.o.lt ho).2;omega)
 fw:=h.fw
 ff:=h.ff
theorem OS.appl (h:OS X P p c1 c2 c3 vb nb vl nl nf vo no vw vf W) (a:App X W 182 2 vl nl 1 (lg P vf) H v' W') (h0:H 0 = .string (qs (P.B nl))) (h1:H 1=vf nl):OS X P p c1 c2 c3 vb nb v' (nl+1) nf vo no vw vf W' where
 tab:=a.mv.blk h.tab (h.l.not_vob h.tab (by decide))
 up:=h.up
 b:=h.b.mv a.mv (fun k hk hb=>(h.b.apart h.l (by decide)) k hk hb)
 l:=a.own.congr (fun i hi=>by
  by_cases e:i<nl*2
  ·rw [app_lt e]
  ·rw [app_ge e];rcases (by omega:i=nl*2∨i=nl*2+1) with e|e
   ·rw [e,Nat.sub_self,h0,lg0]
   ·rw [e,show nl*2+1-nl*2=1 by omega,h1,lg1])
 o:=h.o.mv a.mv (fun k hk hb=>(h.o.apart h.l (by decide)) k hk hb)
 w:=h.w.mv a.mv (fun k hk hb=>(h.w.apart h.l (by decide)) k hk hb)
 f:=fun i hi=>(h.f i hi).mv a.mv (fun k hk hb=>((h.f i hi).apart h.l (by decide)) k hk hb)
 bo:=h.bo
 fw:=h.fw
 ff:=h.ff
theorem OS.st {c1' c2' c3':Value} (h:OS X P p c1 c2 c3 vb nb vl nl nf vo no vw vf W) (hm:∀ k C t,k≠p->Blk W k C t->Blk W' k C t) (hB:Blk W' p #[.int .i64 (P.n:Int),c1',c2',c3',.string ⟨#[48]⟩,vw] 185):OS X P p c1' c2' c3' vb nb vl nl nf vo no vw vf W':=by
 have m:∀ {t:TypeId} {sz n:Nat} {v:Value} {G:Nat->Value},t≠185->Osl X W t sz v n G->Osl X W' t sz v n G:=fun ht h'=>by
  rcases h' with h'|⟨k,cap,C,h1,h2,h3,h4⟩
  ·exact Or.inl h'
  ·exact Or.inr ⟨k,cap,C,h1,h2,hm _ _ _ (vob_ne h3 h.tab ht) h3,h4⟩
 exact ⟨hB,h.up,m (by decide) h.b,m (by decide) h.l,m (by decide) h.o,m (by decide) h.w,fun i hi=>m (by decide) (h.f i hi),h.bo,h.fw,h.ff⟩
theorem setl {a b c d e f v:Value} (i:Nat) (r:Array Value) (h:(#[a,b,c,d,e,f]:Array Value).setIfInBounds i v=r) {k:Nat} {ty:TypeId} (hB:Blk W k #[a,b,c,d,e,f] ty):Blk (W.setCell ⟨k,i,none⟩ v) k r ty:=h▸hB.set i v
theorem OS.set1 (h:OS X P p c1 c2 c3 vb nb vl nl nf vo no vw vf W) (v:Value):OS X P p v c2 c3 vb nb vl nl nf vo no vw vf (W.setCell ⟨p,1,none⟩ v):=h.st (fun k C t hk b=>b.other (a:=⟨p,1,none⟩) v hk) (setl 1 _ rfl h.tab)
theorem OS.set2 (h:OS X P p c1 c2 c3 vb nb vl nl nf vo no vw vf W) (v:Value):OS X P p c1 v c3 vb nb vl nl nf vo no vw vf (W.setCell ⟨p,2,none⟩ v):=h.st (fun k C t hk b=>b.other (a:=⟨p,2,none⟩) v hk) (setl 2 _ rfl h.tab)
theorem OS.set3 (h:OS X P p c1 c2 c3 vb nb vl nl nf vo no vw vf W) (v:Value):OS X P p c1 c2 v vb nb vl nl nf vo no vw vf (W.setCell ⟨p,3,none⟩ v):=h.st (fun k C t hk b=>b.other (a:=⟨p,3,none⟩) v hk) (setl 3 _ rfl h.tab)
theorem OS.d0 (h:OS X P p c1 c2 c3 vb nb vl nl nf vo no vw vf W):W.cell? ⟨p,0,none⟩=some (.int .i64 (P.n:Int)):=h.tab.cell 0 rfl
theorem OS.d1 (h:OS X P p c1 c2 c3 vb nb vl nl nf vo no vw vf W):W.cell? ⟨p,1,none⟩=some c1:=h.tab.cell 1 rfl
theorem OS.d2 (h:OS X P p c1 c2 c3 vb nb vl nl nf vo no vw vf W):W.cell? ⟨p,2,none⟩=some c2:=h.tab.cell 2 rfl
theorem OS.d3 (h:OS X P p c1 c2 c3 vb nb vl nl nf vo no vw vf W):W.cell? ⟨p,3,none⟩=some c3:=h.tab.cell 3 rfl
theorem OS.free (h:OS X P p c1 c2 c3 vb nb vl nl nf vo no vw vf W) (i:Nat):W.frozen? ⟨p,i,none⟩=false:=h.tab.free i
theorem OS.appo (h:OS X P p c1 c2 c3 (.slice none 0 0) nb vl nl nf vo no vw vf W) (a:App X W 3 1 vo no 1 (fun j => .int .i64 (j:Int)) H v' W') (hH:H 0 = .int .i64 (no:Int)):OS X P p c1 c2 c3 (.slice none 0 0) nb vl nl nf v' (no+1) vw vf W' where
 tab:=a.mv.blk h.tab (h.o.not_vob h.tab (by decide))
 up:=h.up
 b:=h.b.mv a.mv (fun k hk=>absurd hk vob_nil)
 l:=h.l.mv a.mv (fun k hk hb=>(h.l.apart h.o (by decide)) k hk hb)
 o:=a.own.congr (fun i hi=>by
  by_cases e:i<no
  ·rw [app_lt (by omega)]
  ·have:i=no:=by omega
   subst this;rw [app_ge (by omega),show i-i*1=0 by omega,hH])
 w:=h.w.mv a.mv (fun k hk hb=>(h.w.apart h.o (by decide)) k hk hb)
 f:=fun i hi=>(h.f i hi).mv a.mv (fun k hk hb=>((h.f i hi).apart h.o (by decide)) k hk hb)
 bo:=fun k hk=>absurd hk vob_nil
 fw:=h.fw
 ff:=h.ff
theorem OD.appb (ha:∀ k,vob v' k->vob vb k∨W.heap.size<=k) {k:Nat} (h:OD p v' vl vo vw vf nf k):OD p vb vl vo vw vf nf k∨W.heap.size<=k:=by
 rcases h with h|h|h
 ·exact Or.inl (Or.inl h)
 ·exact (ha k h).imp (fun h=>Or.inr (Or.inl h)) id
 ·exact Or.inl (Or.inr (Or.inr h))
theorem OD.appl (ha:∀ k,vob v' k->vob vl k∨W.heap.size<=k) {k:Nat} (h:OD p vb v' vo vw vf nf k):OD p vb vl vo vw vf nf k∨W.heap.size<=k:=by
 rcases h with h|h|h|h
 ·exact Or.inl (Or.inl h)
 ·exact Or.inl (Or.inr (Or.inl h))
 ·exact (ha k h).imp (fun h=>Or.inr (Or.inr (Or.inl h))) id
 ·exact Or.inl (Or.inr (Or.inr (Or.inr h)))
theorem OD.appo (ha:∀ k,vob v' k->vob vo k∨W.heap.size<=k) {k:Nat} (h:OD p vb vl v' vw vf nf k):OD p vb vl vo vw vf nf k∨W.heap.size<=k:=by
 rcases h with h|h|h|h|h
 ·exact Or.inl (Or.inl h)
 ·exact Or.inl (Or.inr (Or.inl h))
 ·exact Or.inl (Or.inr (Or.inr (Or.inl h)))
 ·exact (ha k h).imp (fun h=>Or.inr (Or.inr (Or.inr (Or.inl h)))) id
 ·exact Or.inl (Or.inr (Or.inr (Or.inr (Or.inr h))))
theorem OS.addf (h : OS X P p c1 c2 c3 vb nb vl nl nf vo no vw vf W) (hn : nl <= nf) {vr : Value} (hr : Osl X W 34 1 vr P.n (fun j => .string (qs (-P.A nf j)))) (hw : ∀ k, vob vr k -> ¬ vob vw k) (hf : ∀ i, i < nf -> ∀ k, vob vr k -> ¬ vob (vf i) k) :
    OS X P p c1 c2 c3 vb nb vl nl (nf+1) vo no vw (fun i=>if i=nf then vr else vf i) W where
 tab:=h.tab
 up:=h.up
 b:=h.b
 l:=h.l.congr (fun i hi=>by
  by_cases e:i % 2=0
  ·rw [lg,lg,if_pos e,if_pos e]
  ·rw [lg,lg,if_neg e,if_neg e,if_neg (by omega)])
 o:=h.o
 w:=h.w
 f:=fun i hi=>by
  by_cases e:i=nf
  ·subst e;simp only [if_true];exact hr
  ·simp only [if_neg e];exact h.f i (by omega)
 bo:=h.bo
 fw:=fun i hi k hk=>by
  by_cases e:i=nf
  ·simp only [if_pos e] at hk;exact hw k hk
  ·simp only [if_neg e] at hk;exact h.fw i (by omega) k hk
 ff:=fun i i' hi hi' hne k hk hk'=>by
  by_cases e:i=nf
  ·have e':¬ i'=nf:=by omega
   simp only [if_pos e] at hk;simp only [if_neg e'] at hk';exact hf i' (by omega) k hk hk'
  ·simp only [if_neg e] at hk;by_cases e':i'=nf
   ·simp only [if_pos e'] at hk';exact hf i (by omega) k hk' hk
   ·simp only [if_neg e'] at hk';exact h.ff i i' (by omega) (by omega) hne k hk hk'
end
def adr:Value->Option Addr
 | .slice a _ _=>a
 | _=>none
def blkn (d:Nat):Value->Nat
 | .slice (some a) _ _=>a.block
 | _=>d
def capn:Value->Nat
 | .slice _ _ c=>c
 | _=>0
theorem Osl.shape {X w:World} {t:TypeId} {sz n d:Nat} {v:Value} {G:Nat->Value} (h:Osl X w t sz v n G):v = .slice (oa n (blkn d v) (adr v)) n (capn v)/\n<=capn v/\capn v<=maxLen:=by
 rcases h with ⟨rfl,rfl⟩|⟨k,cap,C,rfl,h2,h3,h4,h5,_⟩
 ·exact ⟨rfl,Nat.le_refl _,Nat.zero_le _⟩
 ·refine ⟨?_,h4,h5⟩;simp only [blkn,adr,capn,oa,ite_self]
theorem Osl.blkn {X w:World} {t:TypeId} {sz n d:Nat} {v:Value} {G:Nat->Value} (h:Osl X w t sz v n G) (hn:0<n):vob v (blkn d v)/\∃ C,Blk w (blkn d v) C t/\∀ i,i<n*sz->C[i]?=some (G i):=by
 obtain ⟨k,cap,C,rfl,h2,h3,h4,h5,h6,h7⟩:=h.blk hn;exact ⟨vob_some.2 rfl,C,h3,h7⟩
theorem Osl.blkn_lt {X w:World} {t:TypeId} {sz n d:Nat} {v:Value} {G:Nat->Value} (h:Osl X w t sz v n G) (hd:X.heap.size<=d/\d<w.heap.size):X.heap.size<=Go.Proofs.YtmahadmefplbnaaGreatDoor.blkn d v/\Go.Proofs.YtmahadmefplbnaaGreatDoor.blkn d v<w.heap.size:=by
 rcases h with ⟨rfl,rfl⟩|⟨k,cap,C,rfl,h2,h3,_⟩
 ·exact hd
 ·exact ⟨h2,h3.lt⟩
def om (p:Nat) (vb vl vo vw:Value) (vf:Nat->Value):TM where
 bb:=blkn p vb
 bc:=capn vb
 lb:=blkn p vl
 lc:=capn vl
 ob:=blkn p vo
 oc:=capn vo
 wb:=blkn p vw
 wcap:=capn vw
 fb i:=blkn p (vf i)
 fc i:=capn (vf i)
 bx:=adr vb
 lx:=adr vl
 ox:=adr vo
 wx:=adr vw
 fx i:=adr (vf i)
theorem OS.ta {X W:World} {P:LP} {p:Nat} {vb vl vo vw:Value} {vf:Nat->Value} (h:OS X P p vb vl vo vb P.m vl P.m P.m vo P.n vw vf W):TA X P P.first p (om p vb vl vo vw vf) W:=by
 have hp:=And.intro h.up h.tab.lt;refine ⟨⟨⟨_,h.tab,?_⟩,fun hm=>?_,fun hm=>?_,fun hn=>?_,fun hn=>?_,fun hn i hi=>?_,fun hn i i' hi hi' e=>?_,fun hn i hi e=>?_,fun hm hn e=>?_,?_⟩,?_,?_⟩
 ·simp only [TCells,om,LP.first];refine ⟨rfl,?_,?_,?_,by rw [qs_zero];rfl,?_⟩
  ·rw [← (h.b.shape (d:=p)).1];rfl
  ·rw [← (h.l.shape (d:=p)).1];rfl
  ·rw [← (h.o.shape (d:=p)).1];rfl
  ·rw [← (h.w.shape (d:=p)).1];rfl
 ·obtain ⟨_,C,b,c⟩:=h.b.blkn (d:=p) hm;exact ⟨C,b,fun i hi=>by rw [c i (by omega)];simp only [LP.first];rw [Int.natCast_add]⟩
 ·obtain ⟨_,C,b,c⟩:=h.l.blkn (d:=p) hm;refine ⟨C,b,fun i hi=>⟨by rw [c _ (by omega),lg0];rfl,?_⟩⟩;rw [c _ (by omega),lg1];simp only [om];rw [← ((h.f i hi).shape (d:=p)).1]
 ·obtain ⟨_,C,b,c⟩:=h.o.blkn (d:=p) hn;exact ⟨C,b,fun j hj=>by rw [c j (by omega)];rfl⟩
 ·obtain ⟨_,C,b,c⟩:=h.w.blkn (d:=p) hn;exact ⟨C,b,fun j hj=>by rw [c j (by omega)];rfl⟩
 ·obtain ⟨_,C,b,c⟩:=(h.f i hi).blkn (d:=p) hn;exact ⟨C,b,fun j hj=>by rw [c j (by omega)];rfl⟩
 ·rcases Nat.lt_or_ge i i' with h'|h'
  ·exact absurd ((h.f i' hi').blkn (d:=p) hn).1 (by rw [show blkn p (vf i')=blkn p (vf i) from e.symm];exact h.ff i i' hi hi' (by omega) _ ((h.f i hi).blkn (d:=p) hn).1)
  ·rcases Nat.lt_or_ge i' i with h''|h''
   ·exact absurd ((h.f i' hi').blkn (d:=p) hn).1 (by rw [show blkn p (vf i')=blkn p (vf i) from e.symm];exact h.ff i i' hi hi' (by omega) _ ((h.f i hi).blkn (d:=p) hn).1)
   ·omega
 ·exact absurd (h.w.blkn (d:=p) hn).1 (by rw [show blkn p vw=blkn p (vf i) from e.symm];exact h.fw i hi _ ((h.f i hi).blkn (d:=p) hn).1)
 ·exact absurd (h.o.blkn (d:=p) hn).1 (by rw [show blkn p vo=blkn p vb from e.symm];exact h.bo _ (h.b.blkn (d:=p) hm).1)
 ·exact ⟨(h.b.shape (d:=p)).2,(h.l.shape (d:=p)).2,(h.o.shape (d:=p)).2,(h.w.shape (d:=p)).2,fun i hi=>((h.f i hi).shape (d:=p)).2⟩
 ·rintro k (rfl|rfl|rfl|rfl|rfl|⟨i,hi,rfl⟩)
  ·exact hp.1
  ·exact (h.b.blkn_lt hp).1
  ·exact (h.l.blkn_lt hp).1
  ·exact (h.o.blkn_lt hp).1
  ·exact (h.w.blkn_lt hp).1
  ·exact ((h.f i hi).blkn_lt hp).1
 ·rintro k (rfl|rfl|rfl|rfl|rfl|⟨i,hi,rfl⟩)
  ·exact hp.2
  ·exact (h.b.blkn_lt hp).2
  ·exact (h.l.blkn_lt hp).2
  ·exact (h.o.blkn_lt hp).2
  ·exact (h.w.blkn_lt hp).2
  ·exact ((h.f i hi).blkn_lt hp).2
theorem under_s:Tryz.prog.underlying 30=some (.slice 34):=by kernel_rfl
theorem clone_s {v:Value} {n:Nat} {g:Nat->Value} {w:World} (h:Rd w v n g) (h1:∀ j,j<n->(g j).oneCell'=true) (hn:n<=1000) :
    Calls Tryz.prog 194 #[v] w fun e w'=>∃ v',e = .returned v'/\Ext w w'/\Osl w w' 34 1 v' n g:=by
 obtain ⟨ao,cap,rfl,c1,c2,hc⟩:=h;cases ao with
 | none =>
  have hn0:n=0:=by
   rcases Nat.eq_zero_or_pos n with h|h
   ·exact h
   ·obtain ⟨a,e,_⟩:=hc 0 h;cases e
  subst hn0;have hb:∀ W,(binOp BinOp.eql 30 (.slice none 0 cap) (.slice none 0 0)).run Tryz.prog W = .ok (.bool true) W:=fun W=>by kernel_rfl
  clear hc;go_enter Tryz.func194,Tryz.ntmps194;go_wp2;go_ret;exact ⟨_,rfl,Ext.refl _,Or.inl ⟨rfl,rfl⟩⟩
 | some a =>
  have HC:Hid (∀ j,j<n->w.cell? (a.add j)=some (g j)):=Hi29 (fun j hj=>by obtain ⟨b,e,h⟩:=hc j hj;rw [Option.some.inj e];exact h);have H1:=Hi29 h1;have hb:∀ W,(binOp BinOp.eql 30 (.slice (some a) n cap) (.slice none 0 0)).run Tryz.prog W = .ok (.bool false) W:=fun W=>by kernel_rfl
  clear hc h1;have hs:n<=maxLen:=Nat.le_trans c1 c2;go_enter Tryz.func194,Tryz.ntmps194;have hX:Ext w (w.alloc (.cells #[] 34)):=(Ext.refl w).alloc _;have hO:Osl w (w.alloc (.cells #[] 34)) 34 1 (.slice (some ⟨w.heap.size,0,none⟩) 0 0) 0 g:=Or.inr ⟨_,0,#[],rfl,Nat.le_refl _,Blk.new _ _ _,Nat.le_refl _,Nat.zero_le _,rfl,fun i hi=>by omega⟩;have HX:=Hi29 hX;have HO:=Hi29 hO;clear hX hO;go_wp2_with (at_builtin;refine wpList_plain rfl fun K_ hK_=>op_append (X:=w) (G:=g) (H:=g) rfl rfl rfl under_s info_s rfl HX.out HO.out (fun e=>by cases e) (fun j hj=>keepA HX.out (HC.out j (by omega))) (fun j hj=>H1.out j (by omega)) (by omega) (by omega) (fun v' w' hA=>hK_ _ _ ?_));have HA:=Hi29 hA;clear hA;go_wp2;go_ret;refine ⟨_,rfl,HA.out.mv.ext,?_⟩;have:=HA.out.own;rw [Nat.zero_add] at this;exact this.congr (fun i hi=>by rw [app_ge (by omega)];simp)
def Rw (w:World) (v:Value) (m:Nat) (a b:Nat->Value):Prop:=∃ (ao:Option Addr) (cap:Nat),v = .slice ao m cap/\m<=cap/\cap<=maxLen /\
 ∀ i,i<m->∃ lb o,ao=some ⟨lb,o,none⟩/\w.cell? ⟨lb,o+i*2,none⟩=some (a i)/\w.cell? ⟨lb,o+i*2+1,none⟩=some (b i)
theorem Rw.ext {w w':World} {v:Value} {m:Nat} {a b:Nat->Value} (h:Rw w v m a b) (e:Ext w w'):Rw w' v m a b:=by
 obtain ⟨ao,cap,h1,h2,h3,h4⟩:=h;exact ⟨ao,cap,h1,h2,h3,fun i hi=>let ⟨lb,o,e1,e2,e3⟩:=h4 i hi;⟨lb,o,e1,keepA e e2,keepA e e3⟩⟩
structure PM (P:LP) (w:World) (vr vc:Value) (va:Nat->Value):Prop where
 rows:Rw w vr P.m va (fun i => .string (qs (P.B i)))
 fac:∀ i,i<P.m->Rq w (va i) P.n (P.A i)
 obj:Rq w vc P.n P.C
theorem PM.ext {P:LP} {w w':World} {vr vc:Value} {va:Nat->Value} (h:PM P w vr vc va) (e:Ext w w'):PM P w' vr vc va:=⟨h.rows.ext e,fun i hi=>(h.fac i hi).ext e,h.obj.ext e⟩
def OpenP (P:LP) (w:World) (e:Ending) (w':World):Prop:=∃ (pk:Nat) (M:TM),e = .returned (.pointer (some ⟨pk,0,none⟩))/\Ext w w'/\TA w P P.first pk M w'
theorem under_i:Tryz.prog.underlying 85=some (.slice 3):=by kernel_rfl
theorem info_i:(Tryz.prog.info? 3).map (fun i=>(i.zero,i.size,i.bytes))=some (some (.int .i64 0),1,8):=by kernel_rfl
theorem under_l:Tryz.prog.underlying 183=some (.slice 182):=by kernel_rfl
theorem info_l:(Tryz.prog.info? 182).map (fun i=>(i.zero,i.size,i.bytes))=some (some (.agg #[.string ⟨#[]⟩,.slice none 0 0]),2,40):=by kernel_rfl
theorem mv_osl {X w W:World} {t:TypeId} {sz n:Nat} {v:Value} {G:Nat->Value} (e:Ext w W) (h:Osl w W t sz v n G) (hs:X.heap.size<=w.heap.size):Osl X W t sz v n G:=by
 rcases h with h|⟨k,cap,C,h1,h2,h3⟩
 ·exact Or.inl h
 ·exact Or.inr ⟨k,cap,C,h1,Nat.le_trans hs h2,h3⟩
theorem Osl.one {X w:World} {t:TypeId} {sz n:Nat} {v:Value} {G:Nat->Value} (h:Osl X w t sz v n G):v.oneCell'=true:=by
 rcases h with ⟨rfl,_⟩|⟨k,cap,C,rfl,_⟩ <;> rfl
theorem Osl.isl {X w:World} {t:TypeId} {sz n:Nat} {v:Value} {G:Nat->Value} (h:Osl X w t sz v n G):∃ a k c,v = .slice a k c:=by
 rcases h with ⟨rfl,_⟩|⟨k,cap,C,rfl,_⟩ <;> exact ⟨_,_,_,rfl⟩
theorem op_append2 {P:Program} {X w:World} {e:TypeId} {z:Value} {sz bytes n m c:Nat} {v:Value} {G H:Nat->Value} {ad:Addr} {o:Oper} {a:Act} {Q:Exit->Act->World->Prop} {K:Act->World->Prop} {s x:Operand} {t:TypeId} (ho:o.op = .call { callee:=.builtin .append,args:=#[s,x],argTypes:=#[t,t] })
    (hs:a.eval s=v) (hx:a.eval x = .slice (some ad) m c) (ht:P.underlying t=some (.slice e)) (hi:(P.info? e).map (fun i=>(i.zero,i.size,i.bytes))=some (some z,sz,bytes)) (hzs:z.cells.size=sz)
    (hX:Ext X w) (h:Osl X w e sz v n G) (hm0:v = .slice none 0 0->0<m) (hsrc:∀ j,j<m*sz->w.cell? (ad.add j)=some (H j)) (h1:∀ j,j<m*sz->(H j).oneCell'=true) (h63:n+m<=maxLen) (hb:(n+m)*bytes<=140737488355328)
    (hK:∀ b k c w',App X w e sz v n m G H (.slice b k c) w'->K (a.put o.dst (.slice b k c)) w'):o.wp P a w K Q :=
 op_append ho hs hx ht hi hzs hX h hm0 hsrc h1 h63 hb fun v' w' hA=>by
  obtain ⟨b,k,c,rfl⟩:=hA.own.isl;exact hK b k c w' hA
theorem app1 {X w:World} {t:TypeId} {v:Value} {n:Nat} {G H:Nat->Value} (h:Osl X w t 1 v (n+1) (app (n*1) G H)) (hH:H 0=G n):Osl X w t 1 v (n+1) G:=h.congr (fun i hi=>by
 by_cases e:i<n
 ·rw [app_lt (by omega)]
 ·have:i=n:=by omega
  subst this;rw [app_ge (by omega),show i-i*1=0 by omega,hH])
theorem two_src {w:World} {b:Nat} {t:TypeId} {x y:Value} (h:Blk w b #[x,y] t):∀ j,j<1*2->w.cell? ((⟨b,0,none⟩:Addr).add j)=some (if j=0 then x else y):=fun j hj=>by
 rcases (by omega:j=0∨j=1) with rfl|rfl
 ·exact blk_add h rfl
 ·exact blk_add h rfl
theorem two_one {x y:Value} (hx:x.oneCell'=true) (hy:y.oneCell'=true):∀ j,j<1*2->(if j=0 then x else y).oneCell'=true:=fun j hj=>by
 split
 ·exact hx
 ·exact hy
theorem popen_c (P:LP) (vr0 vc:Value) (va:Nat->Value) {q:Nat} (w:World) (g:Gd w) (hP:PM P w vr0 vc va) (hn:P.n<=1000) (hm:P.m<=1000) (hq2:q<=400) (qa:∀ i,i<P.m->∀ j,j<P.n->QB q (P.A i j)):Calls Tryz.prog 121 #[.agg #[.int .i64 (P.n:Int),vr0,vc]] w (OpenP P w):=by
 have HG:=Hi29 g;have HQA:=Hi29 qa;clear g qa;have HPO:=Hi29 hP.obj;have HPF:=Hi29 hP.fac;obtain ⟨ro,rcap,rfl,_,_,hrr⟩:=hP.rows;have HRR:=Hi29 hrr;clear hrr hP;go_enter Tryz.func121,Tryz.ntmps121;go_wp2_with fail;refine wp_name (fun W=>Ext w W/\Blk W (w.heap.size) (#[.int .i64 (P.n:Int),.slice ro P.m rcap,vc]) 32) ⟨((Ext.refl w).alloc _),(Blk.nw (#[.int .i64 (P.n:Int),.slice ro P.m rcap,vc]) 32)⟩ ?_;rintro w1 ⟨e1,bB0_1⟩;have HX1:=Hi29 e1;have HB0_1:=Hi29 bB0_1;have HGEB0:Hid (w.heap.size<=w.heap.size):=Hi29 (Nat.le_refl _);clear e1 bB0_1;refine region_e [.val (.pointer (some ⟨w.heap.size,0,none⟩)),.val (.int .i64 (P.n:Int)),.val (.pointer (some ⟨w.heap.size,2,none⟩)),.val (vc),.eff,.eff,.eff,.eff,.eff] (fun L g W=>(L 4=true->Osl w W 34 1 (g 4) P.n (fun j => .string (qs (P.C j))))/\(L 5=true->g 5 = .agg #[.string ⟨#[48]⟩,g 4])/\(L 6=true->g 6 = .agg #[.int .i64 (P.n:Int),.slice none 0 0,.slice none 0 0,.slice none 0 0,.string ⟨#[48]⟩,g 4])/\(L 7=true->∃ pk,g 7 = .pointer (some ⟨pk,0,none⟩)/\w.heap.size<=pk/\Blk W pk #[.int .i64 (P.n:Int),.slice none 0 0,.slice none 0 0,.slice none 0 0,.string ⟨#[48]⟩,g 4] 185)/\(L 8=true->g 8=g 7)) (S:=fun _=>False) (by kernel_rfl) (by kernel_rfl) (by kernel_rfl) (Mv.refl HX1.out (fun k h=>h.elim)) ?_ ?_ ?_ ?_ (fun gv_ w2 hm_ he_=>?_)
 ·exact fun g=>⟨fun h=>absurd h (by decide),fun h=>absurd h (by decide),fun h=>absurd h (by decide),fun h=>absurd h (by decide),fun h=>absurd h (by decide)⟩
 ·exact fun L g W W1 h e=>⟨fun a=>(h.1 a).ext e,h.2.1,h.2.2.1,fun a=>let ⟨pk,x,y,z⟩:=h.2.2.2.1 a;⟨pk,x,y,z.ext e⟩,h.2.2.2.2⟩
 ·intro i v L g W hi h;have n4_:i≠4:=fun e=>by subst e;exact absurd (show false=true from hi) (by decide)
  have n5_:i≠5:=fun e=>by subst e;exact absurd (show false=true from hi) (by decide)
  have n6_:i≠6:=fun e=>by subst e;exact absurd (show false=true from hi) (by decide)
  have n7_:i≠7:=fun e=>by subst e;exact absurd (show false=true from hi) (by decide)
  have n8_:i≠8:=fun e=>by subst e;exact absurd (show false=true from hi) (by decide)
  simp only [up_ne n4_,ug_ne n4_,up_ne n5_,ug_ne n5_,up_ne n6_,ug_ne n6_,up_ne n7_,ug_ne n7_,up_ne n8_,ug_ne n8_];exact h
 ·skip
  refine RI 1 (.pointer (some ⟨w.heap.size,0,none⟩))<|J2 (fun hs_=>hs_.val 0) (fun hs_=>(hs_.mv.blk HB0_1.out (fun h=>h)).cell 0 rfl)<|RI 1 (.pointer (some ⟨w.heap.size,0,none⟩))<|J2 (fun hs_=>hs_.val 2) (fun hs_=>(hs_.mv.blk HB0_1.out (fun h=>h)).cell 2 rfl) ?_;refine RnEL.cons (fun L_ g_ A_ W_ hs_=>?_) ?_
  ·have q13_:=hs_.val 3;refine RnE.eff fun K_ hK_=>?_;have n5_:=hs_.no 5 (by decide) (by kernel_rfl);have n6_:=hs_.no 6 (by decide) (by kernel_rfl);have n7_:=hs_.no 7 (by decide) (by kernel_rfl);have n8_:=hs_.no 8 (by decide) (by kernel_rfl);have HN_:=Hi29 (And.intro n5_ (And.intro n6_ (And.intro n7_ n8_)));clear n5_ n6_ n7_ n8_;have HE_:=Hi29 hs_.e;have HM_:=Hi29 hs_.mv;go_simp;refine (clone_s (g:=(fun j => .string (qs (P.C j)))) (HPO.out.ext hs_.mv.ext) (fun _ _=>rfl) hn).mono ?_;rintro e W9_ ⟨v_,rfl,e9_,ho_⟩;exact hK_.out v_ W9_ (HM_.out.trans e9_) (by simp only [up_at,ug_at,up_ne (show (4:Nat)≠5 by decide),ug_ne (show (4:Nat)≠5 by decide),up_ne (show (4:Nat)≠6 by decide),ug_ne (show (4:Nat)≠6 by decide),up_ne (show (4:Nat)≠7 by decide),ug_ne (show (4:Nat)≠7 by decide),up_ne (show (4:Nat)≠8 by decide),ug_ne (show (4:Nat)≠8 by decide),HN_.out.1,HN_.out.2.1,HN_.out.2.2.1,HN_.out.2.2.2];exact ⟨fun _=>mv_osl e9_ ho_ (HM_.out.ext.size),(fun h=>by cases h),(fun h=>by cases h),(fun h=>by cases h),(fun h=>by cases h)⟩)
  refine RnEL.cons (fun L_ g_ A_ W_ hs_=>?_) ?_
  ·have q14_:=hs_.eff 4;refine RnE.eff fun K_ hK_=>?_;have y4_:=hs_.yes 4 (by kernel_rfl);have n6_:=hs_.no 6 (by decide) (by kernel_rfl);have n7_:=hs_.no 7 (by decide) (by kernel_rfl);have n8_:=hs_.no 8 (by decide) (by kernel_rfl);obtain ⟨a_,n_,c_,es_⟩:=(hs_.e.1 y4_).isl;rw [es_] at q14_;have HES:=Hi29 es_;clear es_;have HN_:=Hi29 (And.intro y4_ (And.intro n6_ (And.intro n7_ n8_)));clear y4_ n6_ n7_ n8_;have he0_:=hs_.e;rw [HES.out] at he0_;have HE_:=Hi29 he0_;have HM_:=Hi29 hs_.mv;clear he0_;go_simp;exact hK_.out _ _ HM_.out (by simp only [up_at,ug_at,up_ne (show (5:Nat)≠4 by decide),ug_ne (show (5:Nat)≠4 by decide),up_ne (show (5:Nat)≠6 by decide),ug_ne (show (5:Nat)≠6 by decide),up_ne (show (5:Nat)≠7 by decide),ug_ne (show (5:Nat)≠7 by decide),up_ne (show (5:Nat)≠8 by decide),ug_ne (show (5:Nat)≠8 by decide),HN_.out.1,HN_.out.2.1,HN_.out.2.2.1,HN_.out.2.2.2,HES.out];exact ⟨fun _=>HE_.out.1 HN_.out.1,fun _=>by first|rfl|trivial,(fun h=>by cases h),(fun h=>by cases h),(fun h=>by cases h)⟩)
  refine RnEL.cons (fun L_ g_ A_ W_ hs_=>?_) ?_
  ·have q11_:=hs_.val 1;have q15_:=hs_.eff 5;refine RnE.eff fun K_ hK_=>?_;have y4_:=hs_.yes 4 (by kernel_rfl);have y5_:=hs_.yes 5 (by kernel_rfl);have n7_:=hs_.no 7 (by decide) (by kernel_rfl);have n8_:=hs_.no 8 (by decide) (by kernel_rfl);have e5_:=hs_.e.2.1 y5_;obtain ⟨a_,n_,c_,es_⟩:=(hs_.e.1 y4_).isl;rw [e5_,es_] at q15_;have HES:=Hi29 es_;clear e5_ es_;have HN_:=Hi29 (And.intro y4_ (And.intro y5_ (And.intro n7_ n8_)));clear y4_ y5_ n7_ n8_;have he0_:=hs_.e;rw [HES.out] at he0_;have HE_:=Hi29 he0_;have HM_:=Hi29 hs_.mv;clear he0_;go_simp;exact hK_.out _ _ HM_.out (by simp only [up_at,ug_at,up_ne (show (6:Nat)≠4 by decide),ug_ne (show (6:Nat)≠4 by decide),up_ne (show (6:Nat)≠5 by decide),ug_ne (show (6:Nat)≠5 by decide),up_ne (show (6:Nat)≠7 by decide),ug_ne (show (6:Nat)≠7 by decide),up_ne (show (6:Nat)≠8 by decide),ug_ne (show (6:Nat)≠8 by decide),HN_.out.1,HN_.out.2.1,HN_.out.2.2.1,HN_.out.2.2.2,HES.out];exact ⟨fun _=>HE_.out.1 HN_.out.1,fun _=>HE_.out.2.1 HN_.out.2.1,fun _=>by first|rfl|trivial,(fun h=>by cases h),(fun h=>by cases h)⟩)
  refine RnEL.cons (fun L_ g_ A_ W_ hs_=>?_) ?_
  ·have q16_:=hs_.eff 6;refine RnE.eff fun K_ hK_=>?_;have y4_:=hs_.yes 4 (by kernel_rfl);have y5_:=hs_.yes 5 (by kernel_rfl);have y6_:=hs_.yes 6 (by kernel_rfl);have n8_:=hs_.no 8 (by decide) (by kernel_rfl);have e6_:=hs_.e.2.2.1 y6_;obtain ⟨a_,n_,c_,es_⟩:=(hs_.e.1 y4_).isl;rw [e6_,es_] at q16_;have HES:=Hi29 es_;clear e6_ es_;have HN_:=Hi29 (And.intro y4_ (And.intro y5_ (And.intro y6_ n8_)));clear y4_ y5_ y6_ n8_;have he0_:=hs_.e;rw [HES.out] at he0_;have HE_:=Hi29 he0_;have HM_:=Hi29 hs_.mv;clear he0_;go_simp;exact hK_.out _ _ (HM_.out.alloc _) (by simp only [up_at,ug_at,up_ne (show (7:Nat)≠4 by decide),ug_ne (show (7:Nat)≠4 by decide),up_ne (show (7:Nat)≠5 by decide),ug_ne (show (7:Nat)≠5 by decide),up_ne (show (7:Nat)≠6 by decide),ug_ne (show (7:Nat)≠6 by decide),up_ne (show (7:Nat)≠8 by decide),ug_ne (show (7:Nat)≠8 by decide),HN_.out.1,HN_.out.2.1,HN_.out.2.2.1,HN_.out.2.2.2,HES.out];exact ⟨fun _=>(HE_.out.1 HN_.out.1).ext ((Ext.refl _).alloc _),fun _=>HE_.out.2.1 HN_.out.2.1,fun _=>HE_.out.2.2.1 HN_.out.2.2.1,fun _=>⟨_,rfl,HM_.out.ext.size,Blk.new _ _ _⟩,(fun h=>by cases h)⟩)
  refine RnEL.cons (fun L_ g_ A_ W_ hs_=>?_) ?_
  ·have q17_:=hs_.eff 7;refine RnE.eff fun K_ hK_=>?_;have y4_:=hs_.yes 4 (by kernel_rfl);have y5_:=hs_.yes 5 (by kernel_rfl);have y6_:=hs_.yes 6 (by kernel_rfl);have y7_:=hs_.yes 7 (by kernel_rfl);have HN_:=Hi29 (And.intro y4_ (And.intro y5_ (And.intro y6_ y7_)));clear y4_ y5_ y6_ y7_;have HE_:=Hi29 hs_.e;have HM_:=Hi29 hs_.mv;go_simp;exact hK_.out _ _ HM_.out (by simp only [up_at,ug_at,up_ne (show (8:Nat)≠4 by decide),ug_ne (show (8:Nat)≠4 by decide),up_ne (show (8:Nat)≠5 by decide),ug_ne (show (8:Nat)≠5 by decide),up_ne (show (8:Nat)≠6 by decide),ug_ne (show (8:Nat)≠6 by decide),up_ne (show (8:Nat)≠7 by decide),ug_ne (show (8:Nat)≠7 by decide),HN_.out.1,HN_.out.2.1,HN_.out.2.2.1,HN_.out.2.2.2];exact ⟨fun _=>HE_.out.1 HN_.out.1,fun _=>HE_.out.2.1 HN_.out.2.1,fun _=>HE_.out.2.2.1 HN_.out.2.2.1,fun _=>HE_.out.2.2.2.1 HN_.out.2.2.2,fun _=>by first|rfl|trivial⟩)
  exact RnEL.nil
 simp only [fse,Ke.value,puts,Act.put,List.setIfInBounds_toArray,List.set_cons_zero,List.set_cons_succ,Nat.reduceAdd];have HX2:Hid (Ext w w2):=Hi29 hm_.ext;have HB0_2:=Hi29 (hm_.blk HB0_1.out (fun h=>h));obtain ⟨pk,e7_,gp_,bp_⟩:=he_.2.2.2.1 rfl;have e8_:=(he_.2.2.2.2 rfl).trans e7_;have ow_:=he_.1 rfl;rw [e8_,e7_];obtain ⟨vw,ev_⟩:∃ v,gv_ 4=v:=⟨_,rfl⟩
 rw [ev_] at bp_ ow_ ⊢;have HBS_2:Hid (OS w P pk (.slice none 0 0) (.slice none 0 0) (.slice none 0 0) (.slice none 0 0) 0 (.slice none 0 0) 0 0 (.slice none 0 0) 0 vw (fun _=>(.slice none 0 0)) w2):=Hi29 ⟨bp_,gp_,Osl.nil _ _ _ _ _,Osl.nil _ _ _ _ _,Osl.nil _ _ _ _ _,ow_,fun i hi=>absurd hi (Nat.not_lt_zero i),fun k hk=>absurd hk vob_nil,fun i hi=>absurd hi (Nat.not_lt_zero i),fun i i2 hi=>absurd hi (Nat.not_lt_zero i)⟩;clear e7_ e8_ gp_ bp_ ow_ ev_;clear hm_ he_;have c0_0:=HB0_2.out.cell 0 rfl;go_wp2_with fail;clear c0_0;go_loopw [20] (fun x0_ wx=>∃ i:Nat,x0_ = .int .i64 i/\i<=P.n/\Hid (Ext w wx/\Blk wx (w.heap.size) (#[.int .i64 (P.n:Int),.slice ro P.m rcap,vc]) 32/\(∃ vo,OS w P pk (.slice none 0 0) (.slice none 0 0) vo (.slice none 0 0) 0 (.slice none 0 0) 0 0 vo i vw (fun _=>(.slice none 0 0)) wx))) (fun x0_ _=>P.n-(intOf x0_).toNat)
 case atStart=>exact ⟨0,rfl,Nat.zero_le _,Hi29 ⟨HX2.out,HB0_2.out,⟨_,HBS_2.out⟩⟩⟩
 case round =>
  rename World=>w3
  obtain ⟨i,rfl,hki,HH⟩:=hrel;have HX3:=Hi29 HH.out.1;have HB0_3:=Hi29 HH.out.2.1;obtain ⟨vo,a1_⟩:=HH.out.2.2;have HBS_3:=Hi29 a1_;clear a1_;clear HH;by_cases hlt:i<P.n
  ·have hlt2:(i:Int)<((P.n:Nat):Int):=by omega
   have cS_3:=HBS_3.out.d3;go_wp2_with (
    at_builtin;refine wpList_plain rfl fun K_ hK_=>op_append2 (X:=w) (H:=fun _ => .int .i64 (i:Int)) (ad:=⟨w3.heap.size,0,none⟩) (m:=1) (c:=1) (v:=vo) rfl rfl rfl under_i info_i rfl (HX3.out.alloc _) (HBS_3.out.alloc _).o (fun _=>by decide) (fun j hj=>by obtain rfl:j=0:=(by omega);exact blk_add (Blk.nw (#[.int .i64 (i:Int)]) 3) rfl) (fun _ _=>rfl) (by unfold maxLen;omega) (by omega) (fun a4_ n4_ c4_ w4 hA_=>hK_ _ _ ?_)
    have HX4:Hid (Ext w w4):=Hi29 hA_.mv.ext;have HB0_4:Hid (Blk w4 (w.heap.size) (#[.int .i64 (P.n:Int),.slice ro P.m rcap,vc]) 32):=Hi29 (hA_.mv.blk (HB0_3.out.alloc _) (HBS_3.out.o.not_vob HB0_3.out (by decide)));have HBS_4:Hid (OS w P pk (.slice none 0 0) (.slice none 0 0) vo (.slice none 0 0) 0 (.slice none 0 0) 0 0 (.slice a4_ n4_ c4_) (i+1) vw (fun _=>(.slice none 0 0)) w4):=Hi29 ((HBS_3.out.alloc _).appo hA_ rfl);clear hA_ cS_3;have cS_3:=HBS_4.out.d3;have fS_3:=HBS_4.out.free 3
   )
   go_roundw
   case rel=>exact ⟨i+1,by go_num,by omega,Hi29 ⟨(HX4.out.setCell (HBS_2.out.up) _),(HB0_4.out.other (a:=⟨pk,3,none⟩) _ (vob_ne HB0_4.out HBS_4.out.tab (by decide))),⟨_,(HBS_4.out.set3 (.slice a4_ n4_ c4_))⟩⟩⟩
   case measure=>simp [intOf];omega
  ·have hk2:i=P.n:=by omega
   have hge:¬ (i:Int)<((P.n:Nat):Int):=by omega
   have HBSx:Hid (OS w P pk (.slice none 0 0) (.slice none 0 0) vo (.slice none 0 0) 0 (.slice none 0 0) 0 0 vo P.n vw (fun _=>(.slice none 0 0)) w3):=Hi29 (hk2▸HBS_3.out);clear hk2;have c0_1:=HB0_3.out.cell 1 rfl;go_wp2_with fail;clear c0_1;go_loopw [37] (fun x0_ wx=>∃ k:Nat,x0_ = .int .i64 k/\k<=P.m/\Hid (Ext w wx/\Blk wx (w.heap.size) (#[.int .i64 (P.n:Int),.slice ro P.m rcap,vc]) 32/\(∃ vb vl vf,OS w P pk vb vl vo vb k vl k k vo P.n vw vf wx))) (fun x0_ _=>P.m-(intOf x0_).toNat)
   case atStart=>exact ⟨0,rfl,Nat.zero_le _,Hi29 ⟨HX3.out,HB0_3.out,⟨_,_,_,HBSx.out⟩⟩⟩
   case round =>
    rename World=>w4
    obtain ⟨k,rfl,hkk,HH⟩:=hrel;have HX4:=Hi29 HH.out.1;have HB0_4:=Hi29 HH.out.2.1;obtain ⟨vb,vl,vf,a1_⟩:=HH.out.2.2;have HBS_4:=Hi29 a1_;clear a1_;clear HH;by_cases hlt:k<P.m
    ·have hlt2:(k:Int)<((P.m:Nat):Int):=by omega
     obtain ⟨ra,o_,rfl,zr_,zs_⟩:=HRR.out k hlt;obtain ⟨fo,fcap,ef_,_,_,hf_⟩:=HPF.out k hlt;rw [ef_] at zr_;have HCr:=Hi29 zr_;have HCs:=Hi29 zs_;have HFK:=Hi29 hf_;clear zr_ zs_ hf_ ef_;have hltk:=hlt;have HLK:=Hi29 hltk;clear hltk;have cr_o____k___2:=keepA HX4.out (HCr.out);have cr_o____k___2___1:=keepA HX4.out (HCs.out);go_upto_region 10 with fail
     have HNEBSB1:Hid (∀ q_,OD pk vb vl vo vw vf k q_->q_≠w4.heap.size):=Hi29 (HBS_4.out.ne (by first|omega|(simp only [];omega)|(simp;omega)));refine wp_name (fun W=>Ext w W/\Blk W (w.heap.size) (#[.int .i64 (P.n:Int),.slice (some ⟨ra,o_,none⟩) P.m rcap,vc]) 32/\OS w P pk vb vl vo vb k vl k k vo P.n vw vf W/\Blk W (w4.heap.size) (#[.slice fo P.n fcap,.string (qs (P.B k))]) 97) ⟨(HX4.out.alloc _),(HB0_4.out.alloc _),(HBS_4.out.alloc _),(Blk.nw (#[.slice fo P.n fcap,.string (qs (P.B k))]) 97)⟩ ?_;rintro w5 ⟨e5,bB0_5,bBS_5,bB1_5⟩;have HX5:=Hi29 e5;have HB0_5:=Hi29 bB0_5;have HBS_5:=Hi29 bBS_5;have HB1_5:=Hi29 bB1_5;have HGEB1:Hid (w.heap.size<=w4.heap.size):=Hi29 (HX4.out.size);clear e5 bB0_5 bBS_5 bB1_5 cr_o____k___2 cr_o____k___2___1;have c1_1:=HB1_5.out.cell 1 rfl;go_upto_region 11 with fail
     have HNEBSB2:Hid (∀ q_,OD pk vb vl vo vw vf k q_->q_≠w5.heap.size):=Hi29 (HBS_5.out.ne (by first|omega|(simp only [];omega)|(simp;omega)));refine wp_name (fun W=>Ext w W/\Blk W (w.heap.size) (#[.int .i64 (P.n:Int),.slice (some ⟨ra,o_,none⟩) P.m rcap,vc]) 32/\OS w P pk vb vl vo vb k vl k k vo P.n vw vf W/\Blk W (w4.heap.size) (#[.slice fo P.n fcap,.string (qs (P.B k))]) 97/\Blk W (w5.heap.size) (#[.string (qs (P.B k)),.slice none 0 0]) 182) ⟨(HX5.out.alloc _),(HB0_5.out.alloc _),(HBS_5.out.alloc _),(HB1_5.out.alloc _),(Blk.nw (#[.string (qs (P.B k)),.slice none 0 0]) 182)⟩ ?_;rintro w6 ⟨e6,bB0_6,bBS_6,bB1_6,bB2_6⟩;have HX6:=Hi29 e6;have HB0_6:=Hi29 bB0_6;have HBS_6:=Hi29 bBS_6;have HB1_6:=Hi29 bB1_6;have HB2_6:=Hi29 bB2_6;have HGEB2:Hid (w.heap.size<=w5.heap.size):=Hi29 (HX5.out.size);clear e6 bB0_6 bBS_6 bB1_6 bB2_6 c1_1;have c1_0:=HB1_6.out.cell 0 rfl;go_wp2_with fail;clear c1_0;have HOLT:Hid (∀ q,OD pk vb vl vo vw vf k q->q<w6.heap.size):=Hi29 HBS_6.out.lt;have HB7L:Hid (w5.heap.size<w6.heap.size):=Hi29 HB2_6.out.lt;go_wp2_with fail;go_loopw [48] (fun x0_ wx=>∃ j:Nat,x0_ = .int .i64 j/\j<=P.n/\Hid (Ext w wx/\Blk wx (w.heap.size) (#[.int .i64 (P.n:Int),.slice (some ⟨ra,o_,none⟩) P.m rcap,vc]) 32/\OS w P pk vb vl vo vb k vl k k vo P.n vw vf wx/\Blk wx (w4.heap.size) (#[.slice fo P.n fcap,.string (qs (P.B k))]) 97/\(∃ vr,Blk wx (w5.heap.size) #[.string (qs (P.B k)),vr] 182/\Osl w wx 34 1 vr j (fun j => .string (qs (-P.A k j)))/\(∀ q,vob vr q->w6.heap.size<=q)/\w6.heap.size<=wx.heap.size))) (fun x0_ _=>P.n-(intOf x0_).toNat)
     case atStart=>exact ⟨0,rfl,Nat.zero_le _,Hi29 ⟨HX6.out,HB0_6.out,HBS_6.out,HB1_6.out,⟨_,HB2_6.out,Osl.nil _ _ _ _ _,fun q hq=>absurd hq vob_nil,Nat.le_refl _⟩⟩⟩
     case round =>
      rename World=>w7
      obtain ⟨j,rfl,hkj,HH⟩:=hrel;have HX7:=Hi29 HH.out.1;have HB0_7:=Hi29 HH.out.2.1;have HBS_7:=Hi29 HH.out.2.2.1;have HB1_7:=Hi29 HH.out.2.2.2.1;obtain ⟨vr,a1_,a2_,a3_,a4_⟩:=HH.out.2.2.2.2;have HB2_7:=Hi29 a1_;have HVR:=Hi29 a2_;have HVG:=Hi29 a3_;have HWL:=Hi29 a4_;clear a1_ a2_ a3_ a4_;clear HH;by_cases hlt:j<P.n
      ·have hlt2:(j:Int)<((P.n:Nat):Int):=by omega
       obtain ⟨fa,rfl,zf_⟩:=HFK.out j hlt;have HCf:=Hi29 zf_;clear zf_;have cf_j:=keepA HX7.out (HCf.out);go_wp2_with fail;clear cf_j;go_wp2_with fail;refine region_e [.val (.pointer (some ⟨w5.heap.size,1,none⟩)),.val (vr),.val (.string (qs (P.A k j))),.val (.string (qs (-P.A k j))),.eff,.eff,.val (.pointer (some ⟨w5.heap.size,1,none⟩)),.eff] (fun L g W=>(L 4=true->∃ b,g 4 = .slice (some ⟨b,0,none⟩) 1 1/\(L 5=false->Blk W b #[.string (qs (-P.A k j))] 34))/\(if L 5=true then Osl w W 34 1 (g 5) (j+1) (fun j => .string (qs (-P.A k j)))/\∀ q,vob (g 5) q->w6.heap.size<=q else Osl w W 34 1 vr j (fun j => .string (qs (-P.A k j))))/\(if L 7=true then Blk W (w5.heap.size) #[.string (qs (P.B k)),g 5] 182 else Blk W (w5.heap.size) #[.string (qs (P.B k)),vr] 182)) (S:=fun q=>vob vr q∨q=w5.heap.size) (by kernel_rfl) (by kernel_rfl) (by kernel_rfl) (Mv.refl HX7.out (fun q h=>h.elim (fun a=>(HVR.out.lt a).1) (fun e=>e▸HGEB2.out))) ?_ ?_ ?_ ?_ (fun gv_ w8 hm_ he_=>?_)
       ·exact fun g=>⟨fun h=>absurd h (by decide),(by rw [if_neg (by decide)];exact HVR.out.ext (Ext.refl _).drew),(by rw [if_neg (by decide)];exact HB2_7.out.drew)⟩
       ·exact fun L g W W1 h e=>⟨fun a=>let ⟨b,x,y⟩:=h.1 a;⟨b,x,fun z=>(y z).ext e⟩,ite_ext h.2.1 (fun h=>⟨h.1.ext e,h.2⟩) (fun h=>h.ext e),ite_ext h.2.2 (fun h=>h.ext e) (fun h=>h.ext e)⟩
       ·intro i v L g W hi h;have n4_:i≠4:=fun e=>by subst e;exact absurd (show false=true from hi) (by decide)
        have n5_:i≠5:=fun e=>by subst e;exact absurd (show false=true from hi) (by decide)
        have n7_:i≠7:=fun e=>by subst e;exact absurd (show false=true from hi) (by decide)
        simp only [up_ne n4_,ug_ne n4_,up_ne n5_,ug_ne n5_,up_ne n7_,ug_ne n7_];exact h
       ·skip
        refine RI 7 (.pointer (some ⟨w5.heap.size,0,none⟩)) ?_;refine RV (fun A_ hs_ K_ hK_=>?_) ?_;· have q52_:=hs_.val 0;have n7_:=hs_.no 7 (by decide) (by kernel_rfl);have e_:=hs_.e.2.2;rw [if_neg (by rw [n7_];decide)] at e_;have c7_1:=e_.cell 1 rfl;clear n7_ e_;go_simp;exact fin_ hK_
        refine RI 9 (.string (qs (P.A k j))) ?_;refine RV (fun A_ hs_ K_ hK_=>?_) ?_;· have q54_:=hs_.val 2;go_simp;refine (rneg_c (P.A k j) _ (HQA.out k HLK.out j hlt) (by omega)).mono ?_;rintro e W9_ ⟨rfl,e9_⟩;exact hK_.out _ e9_
        refine RnEL.cons (fun L_ g_ A_ W_ hs_=>?_) ?_
        ·have q55_:=hs_.val 3;refine RnE.eff fun K_ hK_=>?_;have n5_:=hs_.no 5 (by decide) (by kernel_rfl);have n7_:=hs_.no 7 (by decide) (by kernel_rfl);have e_:=hs_.e;simp only [n5_,n7_,Bool.false_eq_true,if_false] at e_;have HN_:=Hi29 (And.intro n5_ n7_);have HE_:=Hi29 e_;have HM_:=Hi29 hs_.mv;clear n5_ n7_ e_;go_simp;exact hK_.out _ _ (HM_.out.alloc _) (by simp only [up_at,ug_at,up_ne (show (4:Nat)≠5 by decide),ug_ne (show (4:Nat)≠5 by decide),up_ne (show (4:Nat)≠7 by decide),ug_ne (show (4:Nat)≠7 by decide),HN_.out.1,HN_.out.2,Bool.false_eq_true,if_false,if_true];exact ⟨fun _=>⟨_,rfl,fun _=>Blk.new _ _ _⟩,HE_.out.2.1.ext ((Ext.refl _).alloc _),HE_.out.2.2.alloc _⟩)
        refine RnEL.cons (fun L_ g_ A_ W_ hs_=>?_) ?_
        ·have q53_:=hs_.val 1;have q56_:=hs_.eff 4;refine RnE.eff fun K_ hK_=>?_;have n5_:=hs_.not;have n7_:=hs_.no 7 (by decide) (by kernel_rfl);have y4_:=hs_.yes 4 (by kernel_rfl);have e_:=hs_.e;simp only [y4_,n5_,n7_,Bool.false_eq_true,if_false] at e_;obtain ⟨b_,g4_,hb_⟩:=e_.1 trivial;rw [g4_] at q56_;have HN_:=Hi29 (And.intro y4_ n7_);have HE_:=Hi29 e_.2;have HG_:=Hi29 g4_;have HB_:=Hi29 (hb_ trivial);have HM_:=Hi29 hs_.mv;clear y4_ n5_ n7_ e_ g4_ hb_;refine op_append (X:=w) (H:=(fun _ => .string (qs (-P.A k j)))) (ad:=⟨b_,0,none⟩) (m:=1) (c:=1) (v:=vr) rfl (by go_simp) (by go_simp) under_s info_s rfl HM_.out.ext HE_.out.1 (fun _=>by decide) (fun i hi=>by obtain rfl:i=0:=(by omega);exact blk_add HB_.out rfl) (fun _ _=>rfl) (by unfold maxLen;omega) (by omega) (fun v_ W9_ hA_=>?_);exact hK_.out v_ W9_ (HM_.out.comp hA_.mv (fun q h=>Or.inl (Or.inl h))) (by simp only [up_at,ug_at,up_ne (show (5:Nat)≠4 by decide),ug_ne (show (5:Nat)≠4 by decide),up_ne (show (5:Nat)≠7 by decide),ug_ne (show (5:Nat)≠7 by decide),HN_.out.1,HN_.out.2,Bool.false_eq_true,if_false,if_true];exact ⟨fun _=>⟨b_,HG_.out,(fun h=>by cases h)⟩,⟨app1 hA_.own rfl,fun q hq=>(hA_.new q hq).elim (HVG.out q) (fun e=>Nat.le_trans (Nat.le_trans HWL.out HM_.out.size) e)⟩,hA_.mv.blk HE_.out.2 (HE_.out.1.not_vob HE_.out.2 (by decide))⟩)
        refine RI 7 (.pointer (some ⟨w5.heap.size,0,none⟩)) ?_;refine RnEL.cons (fun L_ g_ A_ W_ hs_=>?_) ?_
        ·have q58_:=hs_.val 6;have q57_:=hs_.eff 5;refine RnE.eff fun K_ hK_=>?_;have n7_:=hs_.not;have y4_:=hs_.yes 4 (by kernel_rfl);have y5_:=hs_.yes 5 (by kernel_rfl);have e_:=hs_.e;simp only [y5_,n7_,Bool.false_eq_true,if_false,if_true] at e_;obtain ⟨a_,n_,cc_,es_⟩:=e_.2.1.1.isl;rw [es_] at e_ q57_;have HES:=Hi29 es_;clear es_;have c_:=e_.2.2.cell 1 rfl;have f_:=e_.2.2.free 1;have HN_:=Hi29 (And.intro y4_ y5_);have HE_:=Hi29 e_;have HM_:=Hi29 hs_.mv;clear y4_ y5_ n7_ e_;go_simp;exact hK_.out undef _ (HM_.out.setCell (Or.inl (Or.inr rfl)) _) (by simp only [up_at,ug_at,up_ne (show (7:Nat)≠4 by decide),ug_ne (show (7:Nat)≠4 by decide),up_ne (show (7:Nat)≠5 by decide),ug_ne (show (7:Nat)≠5 by decide),HN_.out.1,HN_.out.2,HES.out,Bool.false_eq_true,if_false,if_true];exact ⟨fun _=>let ⟨b,x,_⟩:=HE_.out.1 HN_.out.1;⟨b,x,(fun h=>by cases h)⟩,⟨HE_.out.2.1.1.other _ (HE_.out.2.1.1.not_vob HE_.out.2.2 (by decide)),HE_.out.2.1.2⟩,HE_.out.2.2.set 1 _⟩)
        exact RnEL.nil
       simp only [fse,Ke.value,puts,Act.put,List.setIfInBounds_toArray,List.set_cons_zero,List.set_cons_succ,Nat.reduceAdd];have HX8:Hid (Ext w w8):=Hi29 hm_.ext;have HB0_8:=Hi29 (hm_.blk HB0_7.out (fun h=>h.elim (HVR.out.not_vob HB0_7.out (by decide)) (fun e=>(Nat.ne_of_lt HB0_5.out.lt) e)));have HBS_8:=Hi29 (HBS_7.out.mvd hm_ (fun q hq h=>h.elim (fun a=>Nat.not_le_of_lt (HOLT.out q hq) (HVG.out q a)) (HNEBSB2.out q hq)));have HB1_8:=Hi29 (hm_.blk HB1_7.out (fun h=>h.elim (HVR.out.not_vob HB1_7.out (by decide)) (fun e=>(Nat.ne_of_lt HB1_5.out.lt) e)));have h_:=he_;simp only [if_true] at h_;obtain ⟨vr2,ev_⟩:∃ v,gv_ 5=v:=⟨_,rfl⟩
       rw [ev_] at h_ ⊢;have HVR2:=Hi29 h_.2.1.1;have HVG2:=Hi29 h_.2.1.2;have HB2_8:=Hi29 h_.2.2;have HWL2:Hid (w6.heap.size<=w8.heap.size):=Hi29 (Nat.le_trans HWL.out hm_.size);clear h_ ev_;clear hm_ he_;go_wp2_with fail;go_roundw
       case rel=>exact ⟨j+1,by go_num,by omega,Hi29 ⟨HX8.out,HB0_8.out,HBS_8.out,HB1_8.out,⟨_,HB2_8.out,HVR2.out,HVG2.out,HWL2.out⟩⟩⟩
       case measure=>simp [intOf];omega
      ·have hk2:j=P.n:=by omega
       have hge:¬ (j:Int)<((P.n:Nat):Int):=by omega
       go_wp2_with fail;have HVRn:Hid (Osl w w7 34 1 vr P.n (fun j => .string (qs (-P.A k j)))):=Hi29 (hk2▸HVR.out);obtain ⟨vg,evg⟩:∃ vg:Nat->Value,vg=(fun i=>if i=k then vr else vf i):=⟨_,rfl⟩
       have HBSf:Hid (OS w P pk vb vl vo vb k vl k (k+1) vo P.n vw vg w7):=Hi29 (evg▸HBS_7.out.addf (Nat.le_refl _) HVRn.out (fun q a c=>Nat.not_le_of_lt (HOLT.out q (Or.inr (Or.inr (Or.inr (Or.inr (Or.inl c)))))) (HVG.out q a)) (fun i hi q a c=>Nat.not_le_of_lt (HOLT.out q (Or.inr (Or.inr (Or.inr (Or.inr (Or.inr ⟨i,hi,c⟩)))))) (HVG.out q a)));have HVK:Hid (vg k=vr):=Hi29 (by rw [evg];exact if_pos rfl);clear evg hk2;go_wp2_with fail;refine region_e [.val (.pointer (some ⟨pk,0,none⟩)),.val (.pointer (some ⟨pk,0,none⟩)),.val (.pointer (some ⟨pk,0,none⟩)),.val (.pointer (some ⟨pk,0,none⟩)),.val (.pointer (some ⟨pk,1,none⟩)),.val (vb),.val (.pointer (some ⟨w.heap.size,0,none⟩)),.val (.int .i64 (P.n:Int)),.val (.int .i64 (k:Int)),.val (.int .i64 (P.n+k:Int)),.eff,.eff,.val (.pointer (some ⟨pk,0,none⟩)),.val (.pointer (some ⟨pk,0,none⟩)),.val (.pointer (some ⟨pk,2,none⟩)),.val (vl),.val (.agg #[.string (qs (P.B k)),vr]),.eff,.eff,.val (.pointer (some ⟨pk,0,none⟩)),.val (.pointer (some ⟨pk,1,none⟩)),.eff,.val (.pointer (some ⟨pk,0,none⟩)),.val (.pointer (some ⟨pk,2,none⟩)),.eff] (fun L g W=>(L 10=true->∃ b,g 10 = .slice (some ⟨b,0,none⟩) 1 1/\(L 11=false->Blk W b #[.int .i64 ((P.n:Int)+(k:Int))] 3))/\(L 17=true->∃ b,g 17 = .slice (some ⟨b,0,none⟩) 1 1/\(L 18=false->Blk W b #[.string (qs (P.B k)),vr] 182))/\OS w P pk (if L 21=true then g 11 else vb) (if L 24=true then g 18 else vl) vo (if L 11=true then g 11 else vb) (if L 11=true then k+1 else k) (if L 18=true then g 18 else vl) (if L 18=true then k+1 else k) (k+1) vo P.n vw vg W) (S:=fun q=>vob vb q∨vob vl q∨q=pk) (by kernel_rfl) (by kernel_rfl) (by kernel_rfl) (Mv.refl HX7.out (fun q h=>h.elim (fun a=>(HBSf.out.b.lt a).1) (fun h=>h.elim (fun a=>(HBSf.out.l.lt a).1) (fun e=>e▸HBSf.out.up)))) ?_ ?_ ?_ ?_ (fun gv_ w8 hm_ he_=>?_)
       ·exact fun g=>⟨fun h=>absurd h (by decide),fun h=>absurd h (by decide),HBSf.out.drew⟩
       ·exact fun L g W W1 h e=>⟨fun a=>let ⟨b,x,y⟩:=h.1 a;⟨b,x,fun z=>(y z).ext e⟩,fun a=>let ⟨b,x,y⟩:=h.2.1 a;⟨b,x,fun z=>(y z).ext e⟩,h.2.2.ext e⟩
       ·intro i v L g W hi h;have n10_:i≠10:=fun e=>by subst e;exact absurd (show false=true from hi) (by decide)
        have n11_:i≠11:=fun e=>by subst e;exact absurd (show false=true from hi) (by decide)
        have n17_:i≠17:=fun e=>by subst e;exact absurd (show false=true from hi) (by decide)
        have n18_:i≠18:=fun e=>by subst e;exact absurd (show false=true from hi) (by decide)
        have n21_:i≠21:=fun e=>by subst e;exact absurd (show false=true from hi) (by decide)
        have n24_:i≠24:=fun e=>by subst e;exact absurd (show false=true from hi) (by decide)
        simp only [up_ne n10_,ug_ne n10_,up_ne n11_,ug_ne n11_,up_ne n17_,ug_ne n17_,up_ne n18_,ug_ne n18_,up_ne n21_,ug_ne n21_,up_ne n24_,ug_ne n24_];exact h
       ·skip
        refine RI 3 (.pointer (some ⟨pk,0,none⟩))<|RI 3 (.pointer (some ⟨pk,0,none⟩))<|RI 3 (.pointer (some ⟨pk,0,none⟩))<|R1 2<|R1 3 ?_;refine RV (fun A_ hs_ K_ hK_=>?_) ?_;· have q64_:=hs_.val 4;have n_:=hs_.no 21 (by decide) (by kernel_rfl);have cS_1:=hs_.e.2.2.d1;rw [if_neg (by rw [n_];decide)] at cS_1;clear n_;go_simp;exact fin_ hK_
        refine RI 1 (.pointer (some ⟨w.heap.size,0,none⟩))<|J2 (fun hs_=>hs_.val 6) (fun hs_=>(hs_.mv.blk HB0_7.out (fun h=>h.elim (fun a=>HBSf.out.b.not_vob HB0_7.out (by decide) a) (fun h=>h.elim (fun a=>absurd a (HBSf.out.l.not_vob HB0_7.out (by decide))) (fun e=>vob_ne HB0_7.out HBSf.out.tab (by decide) e)))).cell 0 rfl)<|RI 5 (.int .i64 (k:Int)) ?_;refine RV (fun A_ hs_ K_ hK_=>?_) ?_;· have q67_:=hs_.val 7;have q68_:=hs_.val 8;go_simp;try go_bits;exact fin_ hK_
        refine RnEL.cons (fun L_ g_ A_ W_ hs_=>?_) ?_
        ·have q69_:=hs_.val 9;refine RnE.eff fun K_ hK_=>?_;have n11_:=hs_.no 11 (by decide) (by kernel_rfl);have n18_:=hs_.no 18 (by decide) (by kernel_rfl);have n21_:=hs_.no 21 (by decide) (by kernel_rfl);have n24_:=hs_.no 24 (by decide) (by kernel_rfl);have n10_:=hs_.not;have e_:=hs_.e;simp only [n11_,n18_,n21_,n24_,n10_,Bool.false_eq_true,if_false,if_true] at e_;have HN_:=Hi29 (And.intro n11_ (And.intro n18_ (And.intro n21_ (n24_))));clear n11_ n18_ n21_ n24_ n10_;have HE_:=Hi29 e_;have HM_:=Hi29 hs_.mv;clear e_;go_simp;exact hK_.out _ _ (HM_.out.alloc _) (by simp only [up_at,ug_at,up_ne (show (10:Nat)≠11 by decide),ug_ne (show (10:Nat)≠11 by decide),up_ne (show (10:Nat)≠17 by decide),ug_ne (show (10:Nat)≠17 by decide),up_ne (show (10:Nat)≠18 by decide),ug_ne (show (10:Nat)≠18 by decide),up_ne (show (10:Nat)≠21 by decide),ug_ne (show (10:Nat)≠21 by decide),up_ne (show (10:Nat)≠24 by decide),ug_ne (show (10:Nat)≠24 by decide),HN_.out.1,HN_.out.2.1,HN_.out.2.2.1,HN_.out.2.2.2,Bool.false_eq_true,if_false,if_true];exact ⟨fun _=>⟨_,rfl,fun _=>Blk.new _ _ _⟩,fun h=>let ⟨b,x,y⟩:=HE_.out.2.1 h;⟨b,x,fun z=>(y z).alloc _⟩,HE_.out.2.2.alloc _⟩)
        refine RnEL.cons (fun L_ g_ A_ W_ hs_=>?_) ?_
        ·have q65_:=hs_.val 5;have q70_:=hs_.eff 10;refine RnE.eff fun K_ hK_=>?_;have y10_:=hs_.yes 10 (by kernel_rfl);have n18_:=hs_.no 18 (by decide) (by kernel_rfl);have n21_:=hs_.no 21 (by decide) (by kernel_rfl);have n24_:=hs_.no 24 (by decide) (by kernel_rfl);have n11_:=hs_.not;have e_:=hs_.e;simp only [y10_,n18_,n21_,n24_,n11_,Bool.false_eq_true,if_false,if_true] at e_;obtain ⟨b_,g_eq,hb_⟩:=e_.1 trivial;rw [g_eq] at q70_;have HG_:=Hi29 g_eq;have HB_:=Hi29 (hb_ trivial);clear g_eq hb_;have HN_:=Hi29 (And.intro y10_ (And.intro n18_ (And.intro n21_ (n24_))));clear y10_ n18_ n21_ n24_ n11_;have HE_:=Hi29 e_;have HM_:=Hi29 hs_.mv;clear e_;refine op_append (X:=w) (H:=fun _ => .int .i64 ((P.n:Int)+(k:Int))) (ad:=⟨b_,0,none⟩) (m:=1) (c:=1) (v:=vb) rfl (by go_simp) (by go_simp) under_i info_i rfl HM_.out.ext HE_.out.2.2.b (fun _=>by decide) (fun i hi=>by obtain rfl:i=0:=(by omega);exact blk_add HB_.out rfl) (fun _ _=>rfl) (by unfold maxLen;omega) (by omega) (fun v_ W9_ hA_=>?_);exact hK_.out v_ W9_ (HM_.out.comp hA_.mv (fun q h=>Or.inl (Or.inl h))) (by simp only [up_at,ug_at,up_ne (show (11:Nat)≠10 by decide),ug_ne (show (11:Nat)≠10 by decide),up_ne (show (11:Nat)≠17 by decide),ug_ne (show (11:Nat)≠17 by decide),up_ne (show (11:Nat)≠18 by decide),ug_ne (show (11:Nat)≠18 by decide),up_ne (show (11:Nat)≠21 by decide),ug_ne (show (11:Nat)≠21 by decide),up_ne (show (11:Nat)≠24 by decide),ug_ne (show (11:Nat)≠24 by decide),HN_.out.1,HN_.out.2.1,HN_.out.2.2.1,HN_.out.2.2.2,Bool.false_eq_true,if_false,if_true];exact ⟨fun _=>⟨b_,HG_.out,(fun h=>by cases h)⟩,fun h=>let ⟨b,x,y⟩:=HE_.out.2.1 h;⟨b,x,fun z=>hA_.mv.blk (y z) (HE_.out.2.2.b.not_vob (y z) (by decide))⟩,HE_.out.2.2.appb hA_ rfl⟩)
        refine RI 3 (.pointer (some ⟨pk,0,none⟩))<|R1 12<|R1 13 ?_;refine RV (fun A_ hs_ K_ hK_=>?_) ?_;· have q74_:=hs_.val 14;have n_:=hs_.no 24 (by decide) (by kernel_rfl);have cS_2:=hs_.e.2.2.d2;rw [if_neg (by rw [n_];decide)] at cS_2;clear n_;go_simp;exact fin_ hK_
        refine J3 (fun hs_=>hs_.is 7 (.pointer (some ⟨w5.heap.size,0,none⟩))) (fun hs_=>(hs_.mv.blk HB2_7.out (fun h=>h.elim (fun a=>HBSf.out.b.not_vob HB2_7.out (by decide) a) (fun h=>h.elim (fun a=>absurd a (fun a=>(HNEBSB2.out) _ (Or.inr (Or.inr (Or.inl a))) rfl)) (fun e=>vob_ne HB2_7.out HBSf.out.tab (by decide) e)))).cell 0 rfl) (fun hs_=>(hs_.mv.blk HB2_7.out (fun h=>h.elim (fun a=>HBSf.out.b.not_vob HB2_7.out (by decide) a) (fun h=>h.elim (fun a=>absurd a (fun a=>(HNEBSB2.out) _ (Or.inr (Or.inr (Or.inl a))) rfl)) (fun e=>vob_ne HB2_7.out HBSf.out.tab (by decide) e)))).cell 1 rfl) ?_;refine RnEL.cons (fun L_ g_ A_ W_ hs_=>?_) ?_
        ·have q76_:=hs_.val 16;refine RnE.eff fun K_ hK_=>?_;have n18_:=hs_.no 18 (by decide) (by kernel_rfl);have n21_:=hs_.no 21 (by decide) (by kernel_rfl);have n24_:=hs_.no 24 (by decide) (by kernel_rfl);have n17_:=hs_.not;have e_:=hs_.e;simp only [n18_,n21_,n24_,n17_,Bool.false_eq_true,if_false,if_true] at e_;have HN_:=Hi29 (And.intro n18_ (And.intro n21_ (n24_)));clear n18_ n21_ n24_ n17_;have HE_:=Hi29 e_;have HM_:=Hi29 hs_.mv;clear e_;go_simp;exact hK_.out _ _ (HM_.out.alloc _) (by simp only [up_at,ug_at,up_ne (show (17:Nat)≠10 by decide),ug_ne (show (17:Nat)≠10 by decide),up_ne (show (17:Nat)≠11 by decide),ug_ne (show (17:Nat)≠11 by decide),up_ne (show (17:Nat)≠18 by decide),ug_ne (show (17:Nat)≠18 by decide),up_ne (show (17:Nat)≠21 by decide),ug_ne (show (17:Nat)≠21 by decide),up_ne (show (17:Nat)≠24 by decide),ug_ne (show (17:Nat)≠24 by decide),HN_.out.1,HN_.out.2.1,HN_.out.2.2,Bool.false_eq_true,if_false,if_true];exact ⟨fun h=>let ⟨b,x,y⟩:=HE_.out.1 h;⟨b,x,fun z=>(y z).alloc _⟩,fun _=>⟨_,rfl,fun _=>Blk.new _ _ _⟩,HE_.out.2.2.ext ((Ext.refl _).alloc _)⟩)
        refine RnEL.cons (fun L_ g_ A_ W_ hs_=>?_) ?_
        ·have q75_:=hs_.val 15;have q77_:=hs_.eff 17;refine RnE.eff fun K_ hK_=>?_;have y10_:=hs_.yes 10 (by kernel_rfl);have y11_:=hs_.yes 11 (by kernel_rfl);have y17_:=hs_.yes 17 (by kernel_rfl);have n21_:=hs_.no 21 (by decide) (by kernel_rfl);have n24_:=hs_.no 24 (by decide) (by kernel_rfl);have n18_:=hs_.not;have e_:=hs_.e;simp only [y10_,y11_,y17_,n21_,n24_,n18_,Bool.false_eq_true,if_false,if_true] at e_;obtain ⟨b_,g_eq,hb_⟩:=e_.2.1 trivial;rw [g_eq] at q77_;have HG_:=Hi29 g_eq;have HB_:=Hi29 (hb_ trivial);clear g_eq hb_;have HN_:=Hi29 (And.intro y10_ (And.intro y11_ (And.intro y17_ (And.intro n21_ (n24_)))));clear y10_ y11_ y17_ n21_ n24_ n18_;have HE_:=Hi29 e_;have HM_:=Hi29 hs_.mv;clear e_;refine op_append (X:=w) (H:=fun i=>if i=0 then .string (qs (P.B k)) else vr) (ad:=⟨b_,0,none⟩) (m:=1) (c:=1) (v:=vl) rfl (by go_simp) (by go_simp) under_l info_l rfl HM_.out.ext HE_.out.2.2.l (fun _=>by decide) (two_src HB_.out) (two_one rfl HVRn.out.one) (by unfold maxLen;omega) (by omega) (fun v_ W9_ hA_=>?_);exact hK_.out v_ W9_ (HM_.out.comp hA_.mv (fun q h=>Or.inl (Or.inr (Or.inl h)))) (by simp only [up_at,ug_at,up_ne (show (18:Nat)≠10 by decide),ug_ne (show (18:Nat)≠10 by decide),up_ne (show (18:Nat)≠11 by decide),ug_ne (show (18:Nat)≠11 by decide),up_ne (show (18:Nat)≠17 by decide),ug_ne (show (18:Nat)≠17 by decide),up_ne (show (18:Nat)≠21 by decide),ug_ne (show (18:Nat)≠21 by decide),up_ne (show (18:Nat)≠24 by decide),ug_ne (show (18:Nat)≠24 by decide),HN_.out.1,HN_.out.2.1,HN_.out.2.2.1,HN_.out.2.2.2.1,HN_.out.2.2.2.2,Bool.false_eq_true,if_false,if_true];exact ⟨fun _=>let ⟨b,x,_⟩:=HE_.out.1 trivial;⟨b,x,(fun h=>by cases h)⟩,fun _=>⟨b_,HG_.out,(fun h=>by cases h)⟩,HE_.out.2.2.appl hA_ (if_pos rfl) ((if_neg (by decide)).trans HVK.out.symm)⟩)
        refine R1 0<|R1 19 ?_;refine RnEL.cons (fun L_ g_ A_ W_ hs_=>?_) ?_
        ·have q80_:=hs_.val 20;have q71_:=hs_.eff 11;refine RnE.eff fun K_ hK_=>?_;have y10_:=hs_.yes 10 (by kernel_rfl);have y11_:=hs_.yes 11 (by kernel_rfl);have y17_:=hs_.yes 17 (by kernel_rfl);have y18_:=hs_.yes 18 (by kernel_rfl);have n24_:=hs_.no 24 (by decide) (by kernel_rfl);have n21_:=hs_.not;have e_:=hs_.e;simp only [y10_,y11_,y17_,y18_,n24_,n21_,Bool.false_eq_true,if_false,if_true] at e_;obtain ⟨a_,n_,cc_,es_⟩:=e_.2.2.b.isl;rw [es_] at e_ q71_;have HES:=Hi29 es_;clear es_;have c_:=e_.2.2.d1;have f_:=e_.2.2.free 1;have HN_:=Hi29 (And.intro y10_ (And.intro y11_ (And.intro y17_ (And.intro y18_ (n24_)))));clear y10_ y11_ y17_ y18_ n24_ n21_;have HE_:=Hi29 e_;have HM_:=Hi29 hs_.mv;clear e_;go_simp;exact hK_.out undef _ (HM_.out.setCell (Or.inl (Or.inr (Or.inr rfl))) _) (by simp only [up_at,ug_at,up_ne (show (21:Nat)≠10 by decide),ug_ne (show (21:Nat)≠10 by decide),up_ne (show (21:Nat)≠11 by decide),ug_ne (show (21:Nat)≠11 by decide),up_ne (show (21:Nat)≠17 by decide),ug_ne (show (21:Nat)≠17 by decide),up_ne (show (21:Nat)≠18 by decide),ug_ne (show (21:Nat)≠18 by decide),up_ne (show (21:Nat)≠24 by decide),ug_ne (show (21:Nat)≠24 by decide),HN_.out.1,HN_.out.2.1,HN_.out.2.2.1,HN_.out.2.2.2.1,HN_.out.2.2.2.2,HES.out,Bool.false_eq_true,if_false,if_true];exact ⟨fun _=>let ⟨b,x,_⟩:=HE_.out.1 trivial;⟨b,x,(fun h=>by cases h)⟩,fun _=>let ⟨b,x,_⟩:=HE_.out.2.1 trivial;⟨b,x,(fun h=>by cases h)⟩,HE_.out.2.2.set1 _⟩)
        refine R1 1<|R1 22 ?_;refine RnEL.cons (fun L_ g_ A_ W_ hs_=>?_) ?_
        ·have q82_:=hs_.val 23;have q78_:=hs_.eff 18;refine RnE.eff fun K_ hK_=>?_;have y10_:=hs_.yes 10 (by kernel_rfl);have y11_:=hs_.yes 11 (by kernel_rfl);have y17_:=hs_.yes 17 (by kernel_rfl);have y18_:=hs_.yes 18 (by kernel_rfl);have y21_:=hs_.yes 21 (by kernel_rfl);have n24_:=hs_.not;have e_:=hs_.e;simp only [y10_,y11_,y17_,y18_,y21_,n24_,Bool.false_eq_true,if_false,if_true] at e_;obtain ⟨a_,n_,cc_,es_⟩:=e_.2.2.l.isl;rw [es_] at e_ q78_;have HES:=Hi29 es_;clear es_;have c_:=e_.2.2.d2;have f_:=e_.2.2.free 2;have HN_:=Hi29 (And.intro y10_ (And.intro y11_ (And.intro y17_ (And.intro y18_ (y21_)))));clear y10_ y11_ y17_ y18_ y21_ n24_;have HE_:=Hi29 e_;have HM_:=Hi29 hs_.mv;clear e_;go_simp;exact hK_.out undef _ (HM_.out.setCell (Or.inl (Or.inr (Or.inr rfl))) _) (by simp only [up_at,ug_at,up_ne (show (24:Nat)≠10 by decide),ug_ne (show (24:Nat)≠10 by decide),up_ne (show (24:Nat)≠11 by decide),ug_ne (show (24:Nat)≠11 by decide),up_ne (show (24:Nat)≠17 by decide),ug_ne (show (24:Nat)≠17 by decide),up_ne (show (24:Nat)≠18 by decide),ug_ne (show (24:Nat)≠18 by decide),up_ne (show (24:Nat)≠21 by decide),ug_ne (show (24:Nat)≠21 by decide),HN_.out.1,HN_.out.2.1,HN_.out.2.2.1,HN_.out.2.2.2.1,HN_.out.2.2.2.2,HES.out,Bool.false_eq_true,if_false,if_true];exact ⟨fun _=>let ⟨b,x,_⟩:=HE_.out.1 trivial;⟨b,x,(fun h=>by cases h)⟩,fun _=>let ⟨b,x,_⟩:=HE_.out.2.1 trivial;⟨b,x,(fun h=>by cases h)⟩,HE_.out.2.2.set2 _⟩)
        exact RnEL.nil
       simp only [fse,Ke.value,puts,Act.put,List.setIfInBounds_toArray,List.set_cons_zero,List.set_cons_succ,Nat.reduceAdd];have HX8:Hid (Ext w w8):=Hi29 hm_.ext;have HB0_8:=Hi29 (hm_.blk HB0_7.out (fun h=>h.elim (fun a=>HBSf.out.b.not_vob HB0_7.out (by decide) a) (fun h=>h.elim (fun a=>absurd a (HBSf.out.l.not_vob HB0_7.out (by decide))) (fun e=>vob_ne HB0_7.out HBSf.out.tab (by decide) e))));have HB1_8:=Hi29 (hm_.blk HB1_7.out (fun h=>h.elim (fun a=>HBSf.out.b.not_vob HB1_7.out (by decide) a) (fun h=>h.elim (fun a=>absurd a (HBSf.out.l.not_vob HB1_7.out (by decide))) (fun e=>vob_ne HB1_7.out HBSf.out.tab (by decide) e))));have HB2_8:=Hi29 (hm_.blk HB2_7.out (fun h=>h.elim (fun a=>HBSf.out.b.not_vob HB2_7.out (by decide) a) (fun h=>h.elim (fun a=>absurd a (fun a=>(HNEBSB2.out) _ (Or.inr (Or.inr (Or.inl a))) rfl)) (fun e=>vob_ne HB2_7.out HBSf.out.tab (by decide) e))));have h_:=he_.2.2;simp only [if_true] at h_;have HBS_8:=Hi29 h_;clear h_;clear hm_ he_;go_wp2_with fail;go_roundw
       case rel=>exact ⟨k+1,by go_num,by omega,Hi29 ⟨HX8.out,HB0_8.out,⟨_,_,_,HBS_8.out⟩⟩⟩
       case measure=>simp [intOf];omega
    ·have hk2:k=P.m:=by omega
     have hge:¬ (k:Int)<((P.m:Nat):Int):=by omega
     go_wp2;go_ret;exact ⟨pk,_,rfl,HX4.out,(OS.ta (hk2▸HBS_4.out))⟩
end Go.Proofs.YtmahadmefplbnaaGreatDoor
