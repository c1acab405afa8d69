/- Part 32. -/
import Derived.Test.YtmahadmefplbnaaGreatDoorQTDB
import Derived.Test.YtmahadmefplbnaaGreatDoorQTD31
set_option maxRecDepth 100000
set_option maxHeartbeats 2000000
open Go.Proofs.Tryz
set_option linter.unusedSimpArgs false
set_option linter.unusedVariables false
namespace Go.Proofs.YtmahadmefplbnaaGreatDoor
open Go Go.RowKit
def Ci(f:Nat->Rat)(i:Nat):Bool:=decide (f i≠0)
def fi(is:Nat->Bool):Nat->Int
 | 0=>-1
 | k+1=>if 0<=fi is k then fi is k else if is k=true then(k:Int) else -1
theorem lA{is:Nat->Bool}:∀ {n:Nat},(∀ i,i<n->is i=false)->fi is n=-1
 | 0,_=>rfl
 | n+1,h=>by rw[fi,lA (fun i hi=>h i ae),if_neg af,if_neg (by rw[h n ae];decide)]
theorem s5{is:Nat->Bool}{k:Nat}:∀ {n:Nat},k<n->(∀ i,i<k->is i=false)->is k=true->fi is n=(k:Int)
 | 0,h,_,_=>ae
 | n+1,h,h1,h2=>by
  by_cases e:k=n
  ·subst e;rw[fi,lA h1,if_neg af,if_pos h2]
  ·have:=s5 (n:=n) ae h1 h2;rw[fi,this,if_pos ae]
theorem j0(is:Nat->Bool):∀ n:Nat,(fi is n=-1/\∀ i,i<n->is i=false)∨∃ k:Nat,k<n/\fi is n=(k:Int)/\is k=true/\∀ i,i<k->is i=false
 | 0=>Or.inl ⟨rfl,fun i hi=>ae⟩
 | n+1=>by
  rcases j0 is n with⟨h1,h2⟩|⟨k,h1,h2,h3,h4⟩
  ·by_cases h:is n=true
   ·exact Or.inr ⟨n,ae,by rw[fi,h1,if_neg af,if_pos h],h,h2⟩
   ·exact Or.inl ⟨by rw[fi,h1,if_neg af,if_neg h],fun i hi=>by
     by_cases e:i=n
     ·rw[e];simpa using h
     ·exact h2 i ae⟩
  ·exact Or.inr ⟨k,ae,by rw[fi,h2,if_pos ae],h3,h4⟩
theorem uz{is:Nat->Bool}{k:Nat}(h:∀ i,i<k->is i=false)(h2:is k=false)(i:Nat)(hi:i<k+1):is i=false:=by
 by_cases e:i=k
 ·rw[e];exact h2
 ·exact h i ae
theorem B9(xb at_ fn fcap:Nat)(cb:ByteArray)(fa:Addr)(x:Rat)(r:Bool)(w:World)(hB:ax w xb #[.int .i64 (at_:Int)] 3)(hc:w.cell? (fa.add at_)=some (.string (qs x)))(hlt:at_<fn)(hr:decide (x≠0)=r):Calls prog 197 #[.agg #[.string cb,.slice (some fa) fn fcap],.pointer (some ⟨xb,0,none⟩)] w (aR w (.bool r)):=by
 have HBx:=aj hB;have HC:=aj hc;have HR:=aj hr;clear hB hc hr;have hlt2:(at_:Int)<(fn:Int):=ae;go_enter func197,ntmps197;by_cases h:x≠0
 ·obtain rfl:r=true:=by rw[← HR.o];simpa using h
  have h1:=a6 h;clear h;go_upto_region 1 with fail
  refine ay (fun W=>Ext w W/\ax W (xb) (#[.int .i64 (at_:Int)]) 3/\ax W (w.heap.size) (#[.string cb,.slice (some fa) fn fcap]) 182) ⟨((Ext.refl w).alloc _),(HBx.o.alloc _),(ax.nw (#[.string cb,.slice (some fa) fn fcap]) 182)⟩ ?_;rintro w1 ⟨e1,bBx_1,bB0_1⟩;have HX1:=aj e1;have HBx_1:=aj bBx_1;have HB0_1:=aj bB0_1;have HGEB0:Hid (w.heap.size<=w.heap.size):=aj (Nat.le_refl _);clear e1 bBx_1 bB0_1;have c0_1:=HB0_1.o.cell 1 rfl;have cx_0:=HBx_1.o.cell (0) rfl;have cf_at_:=az HX1.o (HC.o);go_wp2;go_ret;exact⟨rfl,HX1.o⟩
 ·obtain rfl:r=false:=by rw[← HR.o];simpa using h
  have h1:=eU (Classical.not_not.1 h);clear h;go_upto_region 1 with fail
  refine ay (fun W=>Ext w W/\ax W (xb) (#[.int .i64 (at_:Int)]) 3/\ax W (w.heap.size) (#[.string cb,.slice (some fa) fn fcap]) 182) ⟨((Ext.refl w).alloc _),(HBx.o.alloc _),(ax.nw (#[.string cb,.slice (some fa) fn fcap]) 182)⟩ ?_;rintro w1 ⟨e1,bBx_1,bB0_1⟩;have HX1:=aj e1;have HBx_1:=aj bBx_1;have HB0_1:=aj bB0_1;have HGEB0:Hid (w.heap.size<=w.heap.size):=aj (Nat.le_refl _);clear e1 bBx_1 bB0_1;have c0_1:=HB0_1.o.cell 1 rfl;have cx_0:=HBx_1.o.cell (0) rfl;have cf_at_:=az HX1.o (HC.o);go_wp2;go_ret;exact⟨rfl,HX1.o⟩
theorem B7(xb at_ fn fcap:Nat)(cb:ByteArray)(fa:Addr)(x:Rat)(r:Bool)(w:World)(hB:ax w xb #[.int .i64 (at_:Int)] 3)(hc:w.cell? (fa.add at_)=some (.string (qs x)))(hlt:at_<fn)(hr:decide (x≠0)=r):Calls prog 199 #[.agg #[.string cb,.slice (some fa) fn fcap],.pointer (some ⟨xb,0,none⟩)] w (aR w (.bool r)):=by
 have HBx:=aj hB;have HC:=aj hc;have HR:=aj hr;clear hB hc hr;have hlt2:(at_:Int)<(fn:Int):=ae;go_enter func199,ntmps199;by_cases h:x≠0
 ·obtain rfl:r=true:=by rw[← HR.o];simpa using h
  have h1:=a6 h;clear h;go_upto_region 1 with fail
  refine ay (fun W=>Ext w W/\ax W (xb) (#[.int .i64 (at_:Int)]) 3/\ax W (w.heap.size) (#[.string cb,.slice (some fa) fn fcap]) 182) ⟨((Ext.refl w).alloc _),(HBx.o.alloc _),(ax.nw (#[.string cb,.slice (some fa) fn fcap]) 182)⟩ ?_;rintro w1 ⟨e1,bBx_1,bB0_1⟩;have HX1:=aj e1;have HBx_1:=aj bBx_1;have HB0_1:=aj bB0_1;have HGEB0:Hid (w.heap.size<=w.heap.size):=aj (Nat.le_refl _);clear e1 bBx_1 bB0_1;have c0_1:=HB0_1.o.cell 1 rfl;have cx_0:=HBx_1.o.cell (0) rfl;have cf_at_:=az HX1.o (HC.o);go_wp2;go_ret;exact⟨rfl,HX1.o⟩
 ·obtain rfl:r=false:=by rw[← HR.o];simpa using h
  have h1:=eU (Classical.not_not.1 h);clear h;go_upto_region 1 with fail
  refine ay (fun W=>Ext w W/\ax W (xb) (#[.int .i64 (at_:Int)]) 3/\ax W (w.heap.size) (#[.string cb,.slice (some fa) fn fcap]) 182) ⟨((Ext.refl w).alloc _),(HBx.o.alloc _),(ax.nw (#[.string cb,.slice (some fa) fn fcap]) 182)⟩ ?_;rintro w1 ⟨e1,bBx_1,bB0_1⟩;have HX1:=aj e1;have HBx_1:=aj bBx_1;have HB0_1:=aj bB0_1;have HGEB0:Hid (w.heap.size<=w.heap.size):=aj (Nat.le_refl _);clear e1 bBx_1 bB0_1;have c0_1:=HB0_1.o.cell 1 rfl;have cx_0:=HBx_1.o.cell (0) rfl;have cf_at_:=az HX1.o (HC.o);go_wp2;go_ret;exact⟨rfl,HX1.o⟩
theorem Bt(ao_:Option Addr)(n cap fn:Nat)(cp:Array Value)(a b:Nat->Value)(is:Nat->Bool)(w:World)(hl:∀ i,i<n->∃ la o,ao_=some ⟨la,o,none⟩/\w.cell? ⟨la,o+i*2,none⟩=some (a i)/\w.cell? ⟨la,o+i*2+1,none⟩=some (b i))(hcl:∀ W,Ext w W->∀ k:Nat,k<n->Calls prog fn (#[.agg #[a k,b k]] ++ cp) W (aR W (.bool (is k))))(hn:n<=1000000)(hcf:∀ a_ W,(callFunc fn a_).run prog W = .ok (.enter fn a_) W):Calls prog 196 #[.slice ao_ n cap,.func (.func fn) #[] cp] w (aR w (.int .i64 (fi is n))):=by
 have HL:=aj hl;have HCL:=aj hcl;clear hl hcl;go_enter func196,ntmps196;go_wp2_with fail;go_loopw [8] (fun x0_ wx=>∃ k:Nat,x0_ = .int .i64 k/\k<=n/\Hid (∀ i,i<k->is i=false)/\Hid (Ext w wx)) (fun x0_ _=>n-(intOf x0_).toNat)
 case atStart=>exact⟨0,rfl,Nat.zero_le _,aj (fun i hi=>absurd hi (Nat.not_lt_zero i)),aj (Ext.refl w)⟩
 case round =>
  rename World=>w1
  obtain⟨k,rfl,hkk,HGk,HH⟩:=hrel;have HX1:=aj HH.o;clear HH;by_cases hlt:k<n
  ·have hlt2:(k:Int)<((n:Nat):Int):=ae;obtain⟨la,o_,rfl,zl_,zm_⟩:=HL.o k hlt;have HCl:=aj zl_;have HCm:=aj zm_;clear zl_ zm_;by_cases hi:is k=true
   ·have HIS:=aj hi;clear hi;have cl_o____k___2:=az HX1.o (HCl.o);have cl_o____k___2___1:=az HX1.o (HCm.o);go_wp2_with fail;refine((HIS.o▸HCL.o _ HX1.o k hlt)).mono ?_;rintro e w2 ⟨rfl,e2⟩;have HX2:=aj (HX1.o.trans e2);clear e2 cl_o____k___2 cl_o____k___2___1;go_wp2;go_ret;exact⟨by rw[s5 hlt HGk.o HIS.o];rfl,HX2.o⟩
   ·have HIS:Hid (is k=false):=aj (by simpa using hi);clear hi;have cl_o____k___2:=az HX1.o (HCl.o);have cl_o____k___2___1:=az HX1.o (HCm.o);go_wp2_with fail;refine((HIS.o▸HCL.o _ HX1.o k hlt)).mono ?_;rintro e w2 ⟨rfl,e2⟩;have HX2:=aj (HX1.o.trans e2);clear e2 cl_o____k___2 cl_o____k___2___1;go_wp2_with fail;go_roundw
    case rel=>exact⟨k+1,by go_num,ae,aj (uz HGk.o HIS.o),aj HX2.o⟩
    case measure=>simp[intOf];omega
  ·have hk2:k=n:=ae;have hge:¬ (k:Int)<((n:Nat):Int):=ae;go_wp2;go_ret;exact⟨by rw[lA (by rw[← hk2];exact HGk.o)];rfl,HX1.o⟩
def De(X:World)(P:LP)(p:Nat)(e:Ending)(w':World):Prop:=e = .returned (.tuple #[])/\Ext X w'/\∃ M',TA X P (P.rel P.first P.n) p M' w'
def qS(T:aO)(k i:Nat):Bool:=Ci (fun i=>T.f i k) i
def Dd(P:LP)(T:aO)(k:Nat)(rr:Int):Prop:=(rr=-1/\P.rs T k P.m=-1)∨∃ r:Nat,rr=(r:Int)/\r<P.m/\T.f r k≠0/\P.rs T k r=-1
section
variable {P:LP} {T:aO} {k r d:Nat}
theorem jJ:∀ {n:Nat},(∀ i,i<n->T.f i k≠0->¬ P.n<=T.b i)->P.rs T k n=-1
 | 0,_=>rfl
 | n+1,h=>by rw[LP.rs,jJ (fun i hi=>h i ae),if_neg af,if_neg (fun h'=>h n ae h'.1 h'.2)]
theorem xH{n:Nat}(h:P.rs T k n=-1):∀ i,i<n->T.f i k≠0->¬ P.n<=T.b i:=fun i hi hf hb=>by
 rcases tJ P T k n with⟨_,h2⟩|⟨r,_,h2,_⟩
 ·exact hf (h2 i hi hb)
 ·omega
theorem B2(hr:r<P.m)(hf:T.f r k≠0)(hb:P.n<=T.b r)(hs:P.rs T k r=-1):P.rs T k P.m=(r:Int):=by
 have h1:P.rs T k (r+1)=(r:Int):=by rw[LP.rs,hs,if_neg af,if_pos ⟨hf,hb⟩]
 have h2:∀ d,P.rs T k (r+1+d)=(r:Int):=fun d=>by
  induction d with
  | zero=>exact h1
  | succ d ih=>rw[← Nat.add_assoc,LP.rs,ih,if_pos ae]
 have:=h2 (P.m-(r+1));rwa[show r+1+(P.m-(r+1))=P.m by omega] at this
theorem sd(P:LP)(T:aO)(k:Nat):Dd P T k (fi (qS T k) P.m):=by
 rcases j0 (qS T k) P.m with⟨h1,h2⟩|⟨r,h1,h2,h3,h4⟩
 ·exact Or.inl ⟨h1,jJ (fun i hi hf=>absurd hf (by simpa[qS,Ci] using h2 i hi))⟩
 ·exact Or.inr ⟨r,h2,h1,by simpa[qS,Ci] using h3,jJ (fun i hi hf=>absurd hf (by simpa[qS,Ci] using h4 i hi))⟩
theorem AE(T:aO)(k r m:Nat):fi (fun i=>qS T k (r+1+i)) (m-(r+1))=-1∨∃ d:Nat,fi (fun i=>qS T k (r+1+i)) (m-(r+1))=(d:Int)/\(d<m-(r+1)/\T.f (r+1+d) k≠0/\∀ i,i<d->T.f (r+1+i) k=0):=by
 rcases j0 (fun i=>qS T k (r+1+i)) (m-(r+1)) with⟨h1,h2⟩|⟨d,h1,h2,h3,h4⟩
 ·exact Or.inl h1
 ·exact Or.inr ⟨d,h2,h1,by simpa[qS,Ci] using h3,fun i hi=>by simpa[qS,Ci] using h4 i hi⟩
theorem B3(hr:r<P.m)(hf:T.f r k≠0)(hs:P.rs T k r=-1)(hb:¬ P.n<=T.b r)(hx:fi (fun i=>qS T k (r+1+i)) (P.m-(r+1))=-1):P.rs T k P.m=-1:=by
 refine jJ (fun i hi hfi=>?_);rcases j0 (fun i=>qS T k (r+1+i)) (P.m-(r+1)) with⟨_,h2⟩|⟨d,_,h2,_⟩
 ·rcases Nat.lt_trichotomy i r with h|h|h
  ·exact xH hs i h hfi
  ·rw[h];exact hb
  ·have:=h2 (i-(r+1)) ae;rw[show r+1+(i-(r+1))=i by omega] at this;exact absurd hfi (by simpa[qS,Ci] using this)
 ·omega
theorem u6(hr:r<P.m)(hf:T.f r k≠0)(hs:P.rs T k r=-1)(hb:¬ P.n<=T.b r)(hd:d<P.m-(r+1)/\T.f (r+1+d) k≠0/\∀ i,i<d->T.f (r+1+i) k=0):Dd P T k ((r:Int)+(1+(d:Int))) :=
 Or.inr ⟨r+1+d,ae,ae,hd.2.1,jJ (fun i hi hfi=>by
  rcases Nat.lt_trichotomy i r with h|h|h
  ·exact xH hs i h hfi
  ·rw[h];exact hb
  ·have:=hd.2.2 (i-(r+1)) ae;rw[show r+1+(i-(r+1))=i by omega] at this;exact absurd this hfi)⟩
theorem nW(h:P.rs T k P.m=-1):P.qG T k=T:=by rw[LP.qG,if_pos ae]
theorem xR(h:P.rs T k P.m=(r:Int)):P.qG T k=T.aG r k:=by rw[LP.qG,if_neg ae,h,Int.toNat_natCast]
theorem wZ{n:Int}(h0:0<=n)(h1:n<=1000000000):wrap64 n=n:=by unfold wrap64;omega
theorem DT{m:Nat}(h:d<m-(r+1)):r+1+d<m:=ae
theorem Dl{m:Nat}(h:r+1+d<m)(hm:m<=1000):wrap64 (1+(d:Int))=1+(d:Int):=wZ ae ae
theorem Dk{m:Nat}(h:r+1+d<m)(hm:m<=1000):wrap64 ((r:Int)+(1+(d:Int)))=(r:Int)+(1+(d:Int)):=wZ ae ae
theorem xP{m:Nat}(h:r+1+d<m):m-(intOf (.int .i64 ((r:Int)+(1+(d:Int))))).toNat<m-(intOf (.int .i64 (r:Int))).toNat:=by simp only[intOf];omega
theorem vi:ny P P.first 0:=⟨P.oy,fun j hj _=>rfl,fun j hj=>ae⟩
end
theorem qu{M:TM}{P:LP}{r:Nat}(hr:r<P.m):∃ ao,(∀ W,(Instr.slice 183 (M.vl P) (some (.int .i64 ((r:Int)+1))) none none).run prog W = .ok (.slice ao (P.m-(r+1)) (M.lc-(r+1))) W)/\∀ i,i<P.m-(r+1)->M.lc ≥ P.m->ao=some ⟨M.lb,(r+1)*2,none⟩:=by
 refine⟨if M.lc=r+1 then oa P.m M.lb M.lx else(oa P.m M.lb M.lx).map (·.add ((r+1)*2)),fun W=>?_,fun i hi hc=>?_⟩
 ·rw[TM.vl,run_slice_l W 183 _ _ _ ag .i64 ((r:Int)+1) ae ae];have hs:(sizeOf (prog.elem 183)).run prog W = .ok 2 W:=ag;have e:((r:Int)+1).toNat=r+1:=ae;rw[hs,e];simp only[Result.andThen,sliced]
 ·rw[if_neg ae,gm ae];simp[Addr.add]
section
variable {P:LP} {T:aO} {p k r xb:Nat} {M:TM} {w X:World} {ao:Option Addr}
theorem xj{vb vl vo vw:Value}{vf:Nat->Value}(h:TR P T w p vb vl vo vw vf)(hk:k<P.n){i:Nat}(hi:i<P.m):∃ fa fn fcap,vf i = .slice (some fa) fn fcap/\k<fn/\w.cell? (fa.add k)=some (.string (qs (T.f i k))):=by
 obtain⟨fo,fcap,e,_,_,hh⟩:=h.f i hi;obtain⟨fa,rfl,z⟩:=hh k hk;exact⟨fa,_,fcap,e,hk,z⟩
theorem B8 {vb vl vo vw:Value} {vf:Nat->Value} {W:World} {i:Nat} (h:TR P T w p vb vl vo vw vf) (hk:k<P.n) (hi:i<P.m) (e:Ext w W) (hB:ax w xb #[.int .i64 (k:Int)] 3) :
    Calls prog 197 #[.agg #[.string (qs (T.c i)),vf i],.pointer (some ⟨xb,0,none⟩)] W (aR W (.bool (qS T k i))):=by
 obtain⟨fa,fn,fcap,ev,h1,h2⟩:=xj h hk hi;rw[ev];exact B9 xb k fn fcap _ fa _ _ W (hB.ext e) (az e h2) h1 rfl
theorem B6 {vb vl vo vw:Value} {vf:Nat->Value} {W:World} {i:Nat} (h:TR P T w p vb vl vo vw vf) (hk:k<P.n) (hi:i<P.m) (e:Ext w W) (hB:ax w xb #[.int .i64 (k:Int)] 3) :
    Calls prog 199 #[.agg #[.string (qs (T.c i)),vf i],.pointer (some ⟨xb,0,none⟩)] W (aR W (.bool (qS T k i))):=by
 obtain⟨fa,fn,fcap,ev,h1,h2⟩:=xj h hk hi;rw[ev];exact B7 xb k fn fcap _ fa _ _ W (hB.ext e) (az e h2) h1 rfl
theorem Cz (h:TA X P T p M w) (hB:ax w xb #[.int .i64 (k:Int)] 3) (hk:k<P.n) (hm:P.m<=1000) :
    Calls prog 196 #[M.vl P,.func (.func 197) #[] #[.pointer (some ⟨xb,0,none⟩)]] w (aR w (.int .i64 (fi (qS T k) P.m))):=by
 obtain⟨ao,cap,e,_,_,hh⟩:=h.tr.l;rw[e];exact Bt ao P.m cap _ _ (fun i => .string (qs (T.c i))) (M.vf P) _ w (fun i hi=>let ⟨lb,e1,e2,e3⟩:=hh i hi;⟨lb,0,e1,by rw[Nat.zero_add];exact e2,by rw[Nat.zero_add];exact e3⟩) (fun W e i hi=>by rw[zv];exact B8 h.tr hk hi e hB) ae (fun _ _=>ag)
theorem yT (h:TA X P T p M w) (hB:ax w xb #[.int .i64 (k:Int)] 3) (hao:∀ i,i<P.m-(r+1)->M.lc ≥ P.m->ao=some ⟨M.lb,(r+1)*2,none⟩) (hr:r<P.m) (hk:k<P.n) (hm:P.m<=1000) :
    Calls prog 196 #[.slice ao (P.m-(r+1)) (M.lc-(r+1)),.func (.func 199) #[] #[.pointer (some ⟨xb,0,none⟩)]] w (aR w (.int .i64 (fi (fun i=>qS T k (r+1+i)) (P.m-(r+1))))):=by
 obtain⟨CL,b,hl⟩:=h.mem.lin ae;refine Bt ao (P.m-(r+1)) (M.lc-(r+1)) _ _ (fun i => .string (qs (T.c (r+1+i)))) (fun i=>M.vf P (r+1+i)) _ w (fun i hi=>⟨M.lb,(r+1)*2,hao i hi h.mem.caps.l.1,?_,?_⟩) (fun W e i hi=>by rw[zv];exact B6 h.tr hk ae e hB) ae (fun _ _=>ag)
 ·rw[← Nat.add_mul];exact b.cell _ (hl _ ae).1
 ·rw[← Nat.add_mul];exact b.cell _ (hl _ ae).2
end
theorem A7{P:LP}{p:Nat}{M:TM}{w X:World}(h:TA X P P.first p M w)(hn0:0<P.n)(hn:P.n<=1000):Calls prog 195 #[M.vo P] w fun e w'=>∃ (cc k:Nat) (C:Array Value),e = .returned (.slice (some ⟨k,0,none⟩) P.n cc)/\Ext w w'/\w.heap.size<=k/\ax w' k C 3/\∀ j,j<P.n->C[j]?=some (.int .i64 (j:Int)):=by
 obtain⟨CO,hb,hc⟩:=h.mem.oth hn0;rw[TM.vo,gm hn0];refine(slices_Clone_int M.ob 0 P.n M.oc ((List.range P.n).map (fun j=>((j:Nat):Int))) w (by simp) ae (fun j hj=>?_)).mono ?_
 ·have hj2:j<P.n:=by simpa using hj
  rw[Nat.zero_add,hb.cell j (hc j hj2)];simp[LP.first,List.getD,hj2]
 ·rintro e w' ⟨v,rfl,ho,hv,hB⟩;rcases ho.2 with⟨rfl,_⟩|⟨g,cap,cur,rfl,hg,hh,h1,h2,h3,h4⟩
  ·exact absurd rfl hv
  ·refine⟨cap,g,cur,rfl,hB,hg,⟨hh⟩,fun j hj=>?_⟩;have e1:(cur.toList.take (P.n*1))[j]?=some (.int .i64 (j:Int)):=by rw[h4];simp[hj]
   rw[List.getElem?_take,if_pos ae] at e1;simpa using e1
theorem qF(P:LP)(p:Nat)(M:TM)(q:Nat)(X w:World)(g:Gd X)(hX:Ext X w)(hT:TA X P P.first p M w)(SZ:zP P q)(hn:P.n<=1000)(hm:P.m<=1000)(hq1:1<=q)(hq2:q<=400)(hn0:0<P.n):Calls prog 122 #[.pointer (some ⟨p,0,none⟩)] w (De X P p):=by
 have HG:=aj g;have HBT:=aj hT;clear g hT;have HX0:Hid (Mv X w (fun k=>X.heap.size<=k) w):=aj (Mv.refl hX (fun k h=>h));clear hX;go_enter func122,ntmps122;have cT_3:=HBT.o.c3;go_wp2_with fail;refine(A7 HBT.o hn0 hn).mono ?_;rintro e w1 ⟨cc,kc,CC,rfl,e1,g_,b_,c_⟩;have HX1:=aj (HX0.o.trans e1);have HBT_1:=aj (HBT.o.ext e1);clear e1 cT_3;have HBc_1:=aj b_;have HCC:=aj c_;have HGEBc:Hid (w.heap.size<=kc):=aj g_;have HNEC:Hid (∀ k,M.S p P.m k->k≠kc):=aj (HBT.o.ne g_);clear b_ c_ g_;go_wp2_with fail;go_loopw [12] (fun x0_ wx=>∃ k:Nat,x0_ = .int .i64 k/\k<=P.n/\Hid (Mv X w (fun k=>X.heap.size<=k) wx/\ax wx (kc) (CC) 3/\(∃ M1,TA X P (P.rel P.first k) p M1 wx/\∀ q,M1.S p P.m q->q≠kc))) (fun x0_ _=>P.n-(intOf x0_).toNat)
 case atStart=>exact⟨0,rfl,Nat.zero_le _,aj ⟨HX1.o,HBc_1.o,⟨M,HBT_1.o,HNEC.o⟩⟩⟩
 case round =>
  rename World=>w2
  obtain⟨k,rfl,hkk,HH⟩:=hrel;have HX2:=aj HH.o.1;have HBc_2:=aj HH.o.2.1;obtain⟨M1,a1_,a2_⟩:=HH.o.2.2;obtain⟨T1,eT⟩:∃ T1,P.rel P.first k=T1:=⟨_,rfl⟩
  rw[eT] at a1_;have HT1:=aj eT;clear eT;have HBT_2:=aj a1_;have HNEC2:=aj a2_;clear a1_ a2_;have HRI:Hid (ny P T1 k):=aj (HT1.o▸ny.all vi k hkk);have HTQ:=aj (SZ T1 HRI.o.inv);clear HH;by_cases hlt:k<P.n
  ·have hlt2:(k:Int)<((P.n:Nat):Int):=ae;have HOK:Hid (T1.o k=k):=aj (HRI.o.rest k hlt (Nat.le_refl _));have hkn:¬ P.n<=k:=ae;have HKN:=aj hkn;have cc_k:=HBc_2.o.cell (k) (HCC.o k hlt);go_upto_region 3 with fail
   have HNEBTB0:Hid (∀ q_,M1.S p P.m q_->q_≠w2.heap.size):=aj (HBT_2.o.ne ah);refine ay (fun W=>Mv X w (fun k=>X.heap.size<=k) W/\TA X P T1 p M1 W/\ax W (kc) (CC) 3/\ax W (w2.heap.size) (#[.int .i64 (k:Int)]) 3) ⟨(HX2.o.alloc _),(HBT_2.o.alloc _),(HBc_2.o.alloc _),(ax.nw (#[.int .i64 (k:Int)]) 3)⟩ ?_;rintro w3 ⟨e3,bBT_3,bBc_3,bB0_3⟩;have HX3:=aj e3;have HBT_3:=aj bBT_3;have HBc_3:=aj bBc_3;have HB0_3:=aj bB0_3;have HGEB0:Hid (w.heap.size<=w2.heap.size):=aj (HX2.o.size);clear e3 bBT_3 bBc_3 bB0_3 cc_k;have cT_2:=HBT_3.o.c2;go_wp2_with fail;refine cto (Cz (HBT_3.o) (HB0_3.o) hlt hm) fun w4 e4=>?_
   have HX4:=aj (HX3.o.trans e4);have HBT_4:=aj (HBT_3.o.ext e4);have HBc_4:=aj (HBc_3.o.ext e4);have HB0_4:=aj (HB0_3.o.ext e4);clear e4 cT_2;go_wp2_with fail;go_loopw [4] (fun x0_ wx=>∃ rr:Int,x0_ = .int .i64 rr/\Hid (Dd P T1 k rr)/\Hid (Mv X w (fun k=>X.heap.size<=k) wx/\ax wx (w2.heap.size) (#[.int .i64 (k:Int)]) 3/\ax wx (kc) (CC) 3/\TA X P T1 p M1 wx)) (fun x0_ _=>P.m-(intOf x0_).toNat)
   case atStart=>exact⟨_,rfl,aj (sd P T1 k),aj ⟨HX4.o,HB0_4.o,HBc_4.o,HBT_4.o⟩⟩
   case round =>
    rename World=>w5
    obtain⟨rr,rfl,HRR,HH⟩:=hrel;have HX5:=aj HH.o.1;have HB0_5:=aj HH.o.2.1;have HBc_5:=aj HH.o.2.2.1;have HBT_5:=aj HH.o.2.2.2;clear HH;rcases HRR.o with⟨rfl,hs⟩|⟨r,rfl,hr,hf,hs⟩
    ·have HRS:=aj hs;clear hs;go_wp2_with fail;go_roundw
     case rel=>exact⟨k+1,by go_num,ae,aj ⟨HX5.o,HBc_5.o,⟨M1,by rw[LP.rel,HT1.o,nW HRS.o];exact HBT_5.o,HNEC2.o⟩⟩⟩
     case measure=>simp[intOf];omega
    ·have HR:=aj hr;have HFR:=aj hf;have HRS:=aj hs;clear hr hf hs;have hr0:(0:Int)<=(r:Int):=ae;obtain⟨bo,bc,eb_,_,_,hb_⟩:=HBT_5.o.tr.b;obtain⟨ba,rfl,zb_⟩:=hb_ r HR.o;have HEB:=aj eb_;have HCb:=aj zb_;clear eb_ zb_ hb_;have hr3:(r:Int)<(P.m:Int):=by have:=HR.o;omega
     by_cases h1:P.n<=T1.b r
     ·have h1p:=aj h1;clear h1;have HPIV:Hid (P.rs T1 k P.m=(r:Int)):=aj (B2 HR.o HFR.o h1p.out HRS.o);have cT_1:=(HEB.o▸HBT_5.o.c1)
      have cb_r:=HCb.o;go_wp2_with fail;refine(o4 (HBT_5.o) (T1.b r) true (by have:=h1p.out;simp;omega)).mono ?_;rintro e _ ⟨rfl,rfl⟩;clear cT_1 cb_r;go_wp2_with fail;refine(o4 (HBT_5.o) k false (by have:=HKN.o;simp;omega)).mono ?_;rintro e _ ⟨rfl,rfl⟩;have c0_0:=HB0_5.o.cell 0 rfl;go_wp2_with fail;refine(py HG.o HX5.o.ext HBT_5.o HR.o hlt HFR.o hn hm hq1 hq2 HTQ.o).mono ?_;rintro e w6 ⟨rfl,m_,kz,g_,t_⟩;have HX6:Hid (Mv X w (fun k=>X.heap.size<=k) w6):=aj (HX5.o.comp m_ (fun k hk=>Or.inl (HBT_5.o.up k hk)));have HBc_6:Hid (ax w6 (kc) (CC) 3):=aj (m_.aF HBc_5.o (fun hk=>HNEC2.o _ hk rfl));have HNPBc:Hid (∀ k,(M1.mn r kz P.n).S p P.m k->k≠kc):=aj (TM.mm HNEC2.o HBc_5.o.lt g_);have HB0_6:Hid (ax w6 (w2.heap.size) (#[.int .i64 (k:Int)]) 3):=aj (m_.aF HB0_5.o (fun hk=>HNEBTB0.o _ hk rfl));have HNPB0:Hid (∀ k,(M1.mn r kz P.n).S p P.m k->k≠w2.heap.size):=aj (TM.mm HNEBTB0.o HB0_5.o.lt g_);have HBT_6:=aj t_;clear m_ g_ t_ c0_0;go_wp2_with fail;go_roundw
      case rel=>exact⟨k+1,by go_num,ae,aj ⟨HX6.o,HBc_6.o,⟨(M1.mn r kz P.n),by rw[LP.rel,HT1.o,xR HPIV.o];exact HBT_6.o,HNPBc.o⟩⟩⟩
      case measure=>simp[intOf];omega
     ·have h1p:=aj h1;clear h1;have cT_1:=(HEB.o▸HBT_5.o.c1)
      have cb_r:=HCb.o;go_wp2_with fail;refine(o4 (HBT_5.o) (T1.b r) false (by have:=h1p.out;simp;omega)).mono ?_;rintro e _ ⟨rfl,rfl⟩;clear cT_1 cb_r;go_upto_region 5 with fail
      obtain⟨ao,hsl,hao⟩:=qu (M:=M1) (P:=P) (r:=r) HR.o;have HAO:=aj hao;clear hao;rcases AE T1 k r P.m with hx|⟨d,hx,hd⟩
      ·have HNX:=aj hx;have HRS2:Hid (P.rs T1 k P.m=-1):=aj (B3 HR.o HFR.o HRS.o h1p.out hx);clear hx HRS;have HRS:=HRS2;have cT_2:=HBT_5.o.c2;go_wp2_with fail;refine((HNX.o▸yT (HBT_5.o) (HB0_5.o) HAO.o HR.o hlt hm)).mono ?_;rintro e w6 ⟨rfl,e6⟩;have HX6:=aj (HX5.o.trans e6);have HBT_6:=aj (HBT_5.o.ext e6);have HBc_6:=aj (HBc_5.o.ext e6);have HB0_6:=aj (HB0_5.o.ext e6);clear e6 cT_2;go_wp2_with fail;go_roundw
       case rel=>exact⟨k+1,by go_num,ae,aj ⟨HX6.o,HBc_6.o,⟨M1,by rw[LP.rel,HT1.o,nW HRS.o];exact HBT_6.o,HNEC2.o⟩⟩⟩
       case measure=>simp[intOf];omega
      ·have HNX:=aj hx;have HD:=aj hd;have HDM:Hid (r+1+d<P.m):=aj (DT hd.1);have hd0:¬ (d:Int)<0:=Int.not_lt.2 (Int.natCast_nonneg d);have hw1:=Dl HDM.o hm;have hw2:=Dk HDM.o hm;clear hx hd;have cT_2:=HBT_5.o.c2;go_wp2_with fail;refine((HNX.o▸yT (HBT_5.o) (HB0_5.o) HAO.o HR.o hlt hm)).mono ?_;rintro e w6 ⟨rfl,e6⟩;have HX6:=aj (HX5.o.trans e6);have HBT_6:=aj (HBT_5.o.ext e6);have HBc_6:=aj (HBc_5.o.ext e6);have HB0_6:=aj (HB0_5.o.ext e6);clear e6 cT_2;go_wp2_with fail;go_roundw
       case rel=>exact⟨(r:Int)+(1+(d:Int)),by go_num,aj (u6 HR.o HFR.o HRS.o h1p.out HD.o),aj ⟨HX6.o,HB0_6.o,HBc_6.o,HBT_6.o⟩⟩
       case measure=>rw[hw2];exact xP HDM.o
  ·have hk2:k=P.n:=ae;have hge:¬ (k:Int)<((P.n:Nat):Int):=ae;go_wp2
   first|go_end0|((try simp only[Exit.inBlock,Exit.then]);refine bodyPost_ret (results_none rfl _ _ _) rfl ?_)
   exact⟨rfl,HX2.o.ext,M1,by rw[← hk2,HT1.o];exact HBT_2.o⟩
def lg(P:LP)(vf:Nat->Value)(c:Nat):Value:=if c % 2=0 then .string (qs (P.B (c / 2))) else vf (c / 2)
theorem ES{P:LP}{vf:Nat->Value}{i:Nat}:lg P vf (i*2) = .string (qs (P.B i)):=by
 have h1:i*2 % 2=0:=ae;have h2:i*2 / 2=i:=ae;rw[lg,if_pos h1,h2]
theorem EP{P:LP}{vf:Nat->Value}{i:Nat}:lg P vf (i*2+1)=vf i:=by
 have h1:¬ (i*2+1) % 2=0:=ae;have h2:(i*2+1) / 2=i:=ae;rw[lg,if_neg h1,h2]
theorem iM{X w:World}{t:TypeId}{sz n:Nat}{v:Value}{G:Nat->Value}(h:bh X w t sz v n G){k:Nat}(hk:c7 v k):∃ C,ax w k C t:=by
 rcases h with⟨h,_⟩|⟨k',cap,C,h1,h2,h3,_⟩
 ·rw[h] at hk;exact absurd hk iL
 ·rw[h1] at hk;rw[← dL.1 hk];exact⟨C,h3⟩
theorem aY{w:World}{t t':TypeId}{k k':Nat}{C C':Array Value}(h:ax w k C t)(h':ax w k' C' t')(ht:t≠t'):k≠k':=h.ne h' ht
theorem bh.apart{X w:World}{t t':TypeId}{sz sz' n n':Nat}{v v':Value}{G G':Nat->Value}(h:bh X w t sz v n G)(h':bh X w t' sz' v' n' G')(ht:t≠t'):∀ k,c7 v k->¬ c7 v' k:=fun k a b =>
 let ⟨_,x⟩:=iM h a;let ⟨_,y⟩:=iM h' b;aY x y ht rfl
theorem bh.other{X w:World}{t:TypeId}{sz n:Nat}{v:Value}{G:Nat->Value}(h:bh X w t sz v n G){a:Addr}(u:Value)(hk:¬ c7 v a.block):bh X (w.setCell a u) t sz v n G:=by
 rcases h with h|⟨k,cap,C,h1,h2,h3,h4⟩
 ·exact Or.inl h
 ·exact Or.inr ⟨k,cap,C,h1,h2,h3.other u (fun e=>hk (by rw[h1];exact dL.2 e)),h4⟩
theorem bh.aI{X w:World}{t t':TypeId}{sz n:Nat}{v:Value}{G:Nat->Value}(h:bh X w t sz v n G){k:Nat}{C:Array Value}(hB:ax w k C t')(ht:t≠t'):¬ c7 v k:=fun hk =>
 let ⟨_,x⟩:=iM h hk;aY x hB ht rfl
structure OS(X:World)(P:LP)(p:Nat)(c1 c2 c3 vb:Value)(nb:Nat)(vl:Value)(nl nf:Nat)(vo:Value)(no:Nat)(vw:Value)(vf:Nat->Value)(W:World):Prop where
 tab:ax W p #[.int .i64 (P.n:Int),c1,c2,c3,.string ⟨#[48]⟩,vw] 185
 up:X.heap.size<=p
 b:bh X W 3 1 vb nb (fun i => .int .i64 ((P.n:Int)+(i:Int)))
 l:bh X W 182 2 vl nl (lg P vf)
 o:bh X W 3 1 vo no (fun j => .int .i64 (j:Int))
 w:bh X W 34 1 vw P.n (fun j => .string (qs (P.C j)))
 f:∀ i,i<nf->bh X W 34 1 (vf i) P.n (fun j => .string (qs (-P.A i j)))
 bo:∀ k,c7 vb k->¬ c7 vo k
 fw:∀ i,i<nf->∀ k,c7 (vf i) k->¬ c7 vw k
 ff:∀ i i',i<nf->i'<nf->i≠i'->∀ k,c7 (vf i) k->¬ c7 (vf i') k
def OD(p:Nat)(vb vl vo vw:Value)(vf:Nat->Value)(nf k:Nat):Prop:=k=p∨c7 vb k∨c7 vl k∨c7 vo k∨c7 vw k∨∃ i,i<nf/\c7 (vf i) k
section
variable {X W W':World} {P:LP} {p nb nl nf no:Nat} {c1 c2 c3 vb vl vo vw v':Value} {vf:Nat->Value} {H:Nat->Value}
theorem OS.map(h:OS X P p c1 c2 c3 vb nb vl nl nf vo no vw vf W)(ht:∀ C,ax W p C 185->ax W' p C 185)(hk:∀ k C t,t≠185->ax W k C t->ax W' k C t):OS X P p c1 c2 c3 vb nb vl nl nf vo no vw vf W':=by
 have m:∀ {t:TypeId} {sz n:Nat} {v:Value} {G:Nat->Value},t≠185->bh X W t sz v n G->bh X W' t sz v n G:=fun ht h=>by
  rcases h with h|⟨k,cap,C,h1,h2,h3,h4⟩
  ·exact Or.inl h
  ·exact Or.inr ⟨k,cap,C,h1,h2,hk _ _ _ ht h3,h4⟩
 exact⟨ht _ h.tab,h.up,m af h.b,m af h.l,m af h.o,m af h.w,fun i hi=>m af (h.f i hi),h.bo,h.fw,h.ff⟩
theorem OS.ext(h:OS X P p c1 c2 c3 vb nb vl nl nf vo no vw vf W)(e:Ext W W'):OS X P p c1 c2 c3 vb nb vl nl nf vo no vw vf W':=h.map (fun _ b=>b.ext e) (fun _ _ _ _ b=>b.ext e)
theorem OS.mv {Y:World} {S:Nat->Prop} (h:OS X P p c1 c2 c3 vb nb vl nl nf vo no vw vf W) (m:Mv Y W S W') (h0:¬ S p) (h1:∀ k,c7 vb k->¬ S k) (h2:∀ k,c7 vl k->¬ S k) (h3:∀ k,c7 vo k->¬ S k) (h4:∀ k,c7 vw k->¬ S k)
    (h5:∀ i,i<nf->∀ k,c7 (vf i) k->¬ S k):OS X P p c1 c2 c3 vb nb vl nl nf vo no vw vf W' :=
 ⟨m.aF h.tab h0,h.up,h.b.mv m h1,h.l.mv m h2,h.o.mv m h3,h.w.mv m h4,fun i hi=>(h.f i hi).mv m (h5 i hi),h.bo,h.fw,h.ff⟩
theorem OS.alloc(h:OS X P p c1 c2 c3 vb nb vl nl nf vo no vw vf W)(o:Obj):OS X P p c1 c2 c3 vb nb vl nl nf vo no vw vf (W.alloc o):=h.ext ((Ext.refl _).alloc o)
theorem OS.drew(h:OS X P p c1 c2 c3 vb nb vl nl nf vo no vw vf W):OS X P p c1 c2 c3 vb nb vl nl nf vo no vw vf W.drew:=h.ext (Ext.refl _).drew
theorem OS.lt(h:OS X P p c1 c2 c3 vb nb vl nl nf vo no vw vf W):∀ k,OD p vb vl vo vw vf nf k->k<W.heap.size:=fun k hk=>by
 rcases hk with rfl|hk|hk|hk|hk|⟨i,hi,hk⟩
 ·exact h.tab.lt
 ·exact(h.b.lt hk).2
 ·exact(h.l.lt hk).2
 ·exact(h.o.lt hk).2
 ·exact(h.w.lt hk).2
 ·exact((h.f i hi).lt hk).2
theorem OS.ne(h:OS X P p c1 c2 c3 vb nb vl nl nf vo no vw vf W){b:Nat}(hb:W.heap.size<=b):∀ k,OD p vb vl vo vw vf nf k->k≠b:=fun k hk e=>by have:=h.lt k hk;omega
theorem OS.EY{Y:World}{S:Nat->Prop}(h:OS X P p c1 c2 c3 vb nb vl nl nf vo no vw vf W)(m:Mv Y W S W')(hs:∀ k,OD p vb vl vo vw vf nf k->¬ S k):OS X P p c1 c2 c3 vb nb vl nl nf vo no vw vf W' :=
 h.mv m (hs _ (Or.inl rfl)) (fun k hk=>hs k (Or.inr (Or.inl hk))) (fun k hk=>hs k (Or.inr (Or.inr (Or.inl hk)))) (fun k hk=>hs k (Or.inr (Or.inr (Or.inr (Or.inl hk))))) (fun k hk=>hs k (Or.inr (Or.inr (Or.inr (Or.inr (Or.inl hk)))))) (fun i hi k hk=>hs k (Or.inr (Or.inr (Or.inr (Or.inr (Or.inr ⟨i,hi,hk⟩))))))
theorem OS.other(h:OS X P p c1 c2 c3 vb nb vl nl nf vo no vw vf W){a:Addr}(u:Value)(hk:∀ k,OD p vb vl vo vw vf nf k->k≠a.block):OS X P p c1 c2 c3 vb nb vl nl nf vo no vw vf (W.setCell a u) :=
 ⟨h.tab.other u (hk _ (Or.inl rfl)),h.up,h.b.other u (fun e=>hk _ (Or.inr (Or.inl e)) rfl),h.l.other u (fun e=>hk _ (Or.inr (Or.inr (Or.inl e))) rfl),h.o.other u (fun e=>hk _ (Or.inr (Or.inr (Or.inr (Or.inl e)))) rfl),
  h.w.other u (fun e=>hk _ (Or.inr (Or.inr (Or.inr (Or.inr (Or.inl e))))) rfl),fun i hi=>(h.f i hi).other u (fun e=>hk _ (Or.inr (Or.inr (Or.inr (Or.inr (Or.inr ⟨i,hi,e⟩))))) rfl),h.bo,h.fw,h.ff⟩
theorem OS.D6(h:OS X P p c1 c2 c3 vb nb vl nl nf vo no vw vf W)(a:App X W 3 1 vb nb 1 (fun i => .int .i64 ((P.n:Int)+(i:Int))) H v' W')(hH:H 0 = .int .i64 ((P.n:Int)+(nb:Int))):OS X P p c1 c2 c3 v' (nb+1) vl nl nf vo no vw vf W' where
 tab:=a.mv.aF h.tab (h.b.aI h.tab af)
 up:=h.up
 b:=a.own.congr (fun i hi=>by
  by_cases e:i<nb
  ·rw[dF ae]
  ·have:i=nb:=ae;subst this;rw[dw ae,show i-i*1=0 by omega,hH])
 l:=h.l.mv a.mv (fun k hk hb=>(h.l.apart h.b af) k hk hb)
 o:=h.o.mv a.mv (fun k hk hb=>h.bo k hb hk)
 w:=h.w.mv a.mv (fun k hk hb=>(h.w.apart h.b af) k hk hb)
 f:=fun i hi=>(h.f i hi).mv a.mv (fun k hk hb=>((h.f i hi).apart h.b af) k hk hb)
 bo:=fun k hk ho=>(a.new k hk).elim (fun hb=>h.bo k hb ho) (fun hn=>by have:=(h.o.lt ho).2;omega)
 fw:=h.fw
 ff:=h.ff
theorem OS.D5(h:OS X P p c1 c2 c3 vb nb vl nl nf vo no vw vf W)(a:App X W 182 2 vl nl 1 (lg P vf) H v' W')(h0:H 0 = .string (qs (P.B nl)))(h1:H 1=vf nl):OS X P p c1 c2 c3 vb nb v' (nl+1) nf vo no vw vf W' where
 tab:=a.mv.aF h.tab (h.l.aI h.tab af)
 up:=h.up
 b:=h.b.mv a.mv (fun k hk hb=>(h.b.apart h.l af) k hk hb)
 l:=a.own.congr (fun i hi=>by
  by_cases e:i<nl*2
  ·rw[dF e]
  ·rw[dw e];rcases (by omega:i=nl*2∨i=nl*2+1) with e|e
   ·rw[e,Nat.sub_self,h0,ES]
   ·rw[e,show nl*2+1-nl*2=1 by omega,h1,EP])
 o:=h.o.mv a.mv (fun k hk hb=>(h.o.apart h.l af) k hk hb)
 w:=h.w.mv a.mv (fun k hk hb=>(h.w.apart h.l af) k hk hb)
 f:=fun i hi=>(h.f i hi).mv a.mv (fun k hk hb=>((h.f i hi).apart h.l af) k hk hb)
 bo:=h.bo
 fw:=h.fw
 ff:=h.ff
theorem OS.st{c1' c2' c3':Value}(h:OS X P p c1 c2 c3 vb nb vl nl nf vo no vw vf W)(hm:∀ k C t,k≠p->ax W k C t->ax W' k C t)(hB:ax W' p #[.int .i64 (P.n:Int),c1',c2',c3',.string ⟨#[48]⟩,vw] 185):OS X P p c1' c2' c3' vb nb vl nl nf vo no vw vf W':=by
 have m:∀ {t:TypeId} {sz n:Nat} {v:Value} {G:Nat->Value},t≠185->bh X W t sz v n G->bh X W' t sz v n G:=fun ht h'=>by
  rcases h' with h'|⟨k,cap,C,h1,h2,h3,h4⟩
  ·exact Or.inl h'
  ·exact Or.inr ⟨k,cap,C,h1,h2,hm _ _ _ (aY h3 h.tab ht) h3,h4⟩
 exact⟨hB,h.up,m af h.b,m af h.l,m af h.o,m af h.w,fun i hi=>m af (h.f i hi),h.bo,h.fw,h.ff⟩
theorem BX{a b c d e f v:Value}(i:Nat)(r:Array Value)(h:(#[a,b,c,d,e,f]:Array Value).setIfInBounds i v=r){k:Nat}{ty:TypeId}(hB:ax W k #[a,b,c,d,e,f] ty):ax (W.setCell ⟨k,i,none⟩ v) k r ty:=h▸hB.set i v
theorem OS.Eu(h:OS X P p c1 c2 c3 vb nb vl nl nf vo no vw vf W)(v:Value):OS X P p v c2 c3 vb nb vl nl nf vo no vw vf (W.setCell ⟨p,1,none⟩ v):=h.st (fun k C t hk b=>b.other (a:=⟨p,1,none⟩) v hk) (BX 1 _ rfl h.tab)
theorem OS.Et(h:OS X P p c1 c2 c3 vb nb vl nl nf vo no vw vf W)(v:Value):OS X P p c1 v c3 vb nb vl nl nf vo no vw vf (W.setCell ⟨p,2,none⟩ v):=h.st (fun k C t hk b=>b.other (a:=⟨p,2,none⟩) v hk) (BX 2 _ rfl h.tab)
theorem OS.Es(h:OS X P p c1 c2 c3 vb nb vl nl nf vo no vw vf W)(v:Value):OS X P p c1 c2 v vb nb vl nl nf vo no vw vf (W.setCell ⟨p,3,none⟩ v):=h.st (fun k C t hk b=>b.other (a:=⟨p,3,none⟩) v hk) (BX 3 _ rfl h.tab)
theorem OS.d0(h:OS X P p c1 c2 c3 vb nb vl nl nf vo no vw vf W):W.cell? ⟨p,0,none⟩=some (.int .i64 (P.n:Int)):=h.tab.cell 0 rfl
theorem OS.d1(h:OS X P p c1 c2 c3 vb nb vl nl nf vo no vw vf W):W.cell? ⟨p,1,none⟩=some c1:=h.tab.cell 1 rfl
theorem OS.d2(h:OS X P p c1 c2 c3 vb nb vl nl nf vo no vw vf W):W.cell? ⟨p,2,none⟩=some c2:=h.tab.cell 2 rfl
theorem OS.d3(h:OS X P p c1 c2 c3 vb nb vl nl nf vo no vw vf W):W.cell? ⟨p,3,none⟩=some c3:=h.tab.cell 3 rfl
theorem OS.free(h:OS X P p c1 c2 c3 vb nb vl nl nf vo no vw vf W)(i:Nat):W.frozen? ⟨p,i,none⟩=false:=h.tab.free i
theorem OS.D4(h:OS X P p c1 c2 c3 (.slice none 0 0) nb vl nl nf vo no vw vf W)(a:App X W 3 1 vo no 1 (fun j => .int .i64 (j:Int)) H v' W')(hH:H 0 = .int .i64 (no:Int)):OS X P p c1 c2 c3 (.slice none 0 0) nb vl nl nf v' (no+1) vw vf W' where
 tab:=a.mv.aF h.tab (h.o.aI h.tab af)
 up:=h.up
 b:=h.b.mv a.mv (fun k hk=>absurd hk iL)
 l:=h.l.mv a.mv (fun k hk hb=>(h.l.apart h.o af) k hk hb)
 o:=a.own.congr (fun i hi=>by
  by_cases e:i<no
  ·rw[dF ae]
  ·have:i=no:=ae;subst this;rw[dw ae,show i-i*1=0 by omega,hH])
 w:=h.w.mv a.mv (fun k hk hb=>(h.w.apart h.o af) k hk hb)
 f:=fun i hi=>(h.f i hi).mv a.mv (fun k hk hb=>((h.f i hi).apart h.o af) k hk hb)
 bo:=fun k hk=>absurd hk iL
 fw:=h.fw
 ff:=h.ff
theorem OD.D6(ha:∀ k,c7 v' k->c7 vb k∨W.heap.size<=k){k:Nat}(h:OD p v' vl vo vw vf nf k):OD p vb vl vo vw vf nf k∨W.heap.size<=k:=by
 rcases h with h|h|h
 ·exact Or.inl (Or.inl h)
 ·exact(ha k h).imp (fun h=>Or.inr (Or.inl h)) id
 ·exact Or.inl (Or.inr (Or.inr h))
theorem OD.D5(ha:∀ k,c7 v' k->c7 vl k∨W.heap.size<=k){k:Nat}(h:OD p vb v' vo vw vf nf k):OD p vb vl vo vw vf nf k∨W.heap.size<=k:=by
 rcases h with h|h|h|h
 ·exact Or.inl (Or.inl h)
 ·exact Or.inl (Or.inr (Or.inl h))
 ·exact(ha k h).imp (fun h=>Or.inr (Or.inr (Or.inl h))) id
 ·exact Or.inl (Or.inr (Or.inr (Or.inr h)))
theorem OD.D4(ha:∀ k,c7 v' k->c7 vo k∨W.heap.size<=k){k:Nat}(h:OD p vb vl v' vw vf nf k):OD p vb vl vo vw vf nf k∨W.heap.size<=k:=by
 rcases h with h|h|h|h|h
 ·exact Or.inl (Or.inl h)
 ·exact Or.inl (Or.inr (Or.inl h))
 ·exact Or.inl (Or.inr (Or.inr (Or.inl h)))
 ·exact(ha k h).imp (fun h=>Or.inr (Or.inr (Or.inr (Or.inl h)))) id
 ·exact Or.inl (Or.inr (Or.inr (Or.inr (Or.inr h))))
theorem OS.EH (h : OS X P p c1 c2 c3 vb nb vl nl nf vo no vw vf W) (hn : nl <= nf) {vr : Value} (hr : bh X W 34 1 vr P.n (fun j => .string (qs (-P.A nf j)))) (hw : ∀ k, c7 vr k -> ¬ c7 vw k) (hf : ∀ i, i < nf -> ∀ k, c7 vr k -> ¬ c7 (vf i) k) :
    OS X P p c1 c2 c3 vb nb vl nl (nf+1) vo no vw (fun i=>if i=nf then vr else vf i) W where
 tab:=h.tab
 up:=h.up
 b:=h.b
 l:=h.l.congr (fun i hi=>by
  by_cases e:i % 2=0
  ·rw[lg,lg,if_pos e,if_pos e]
  ·rw[lg,lg,if_neg e,if_neg e,if_neg ae])
 o:=h.o
 w:=h.w
 f:=fun i hi=>by
  by_cases e:i=nf
  ·subst e;simp only[if_true];exact hr
  ·simp only[if_neg e];exact h.f i ae
 bo:=h.bo
 fw:=fun i hi k hk=>by
  by_cases e:i=nf
  ·simp only[if_pos e] at hk;exact hw k hk
  ·simp only[if_neg e] at hk;exact h.fw i ae k hk
 ff:=fun i i' hi hi' hne k hk hk'=>by
  by_cases e:i=nf
  ·have e':¬ i'=nf:=ae;simp only[if_pos e] at hk;simp only[if_neg e'] at hk';exact hf i' ae k hk hk'
  ·simp only[if_neg e] at hk;by_cases e':i'=nf
   ·simp only[if_pos e'] at hk';exact hf i ae k hk' hk
   ·simp only[if_neg e'] at hk';exact h.ff i i' ae ae hne k hk hk'
end
def Da:Value->Option Addr
 | .slice a _ _=>a
 | _=>none
def du(d:Nat):Value->Nat
 | .slice (some a) _ _=>a.block
 | _=>d
def pZ:Value->Nat
 | .slice _ _ c=>c
 | _=>0
theorem bh.shape{X w:World}{t:TypeId}{sz n d:Nat}{v:Value}{G:Nat->Value}(h:bh X w t sz v n G):v = .slice (oa n (du d v) (Da v)) n (pZ v)/\n<=pZ v/\pZ v<=maxLen:=by
 rcases h with⟨rfl,rfl⟩|⟨k,cap,C,rfl,h2,h3,h4,h5,_⟩
 ·exact⟨rfl,Nat.le_refl _,Nat.zero_le _⟩
 ·refine⟨?_,h4,h5⟩;simp only[du,Da,pZ,oa,ite_self]
theorem bh.du{X w:World}{t:TypeId}{sz n d:Nat}{v:Value}{G:Nat->Value}(h:bh X w t sz v n G)(hn:0<n):c7 v (du d v)/\∃ C,ax w (du d v) C t/\∀ i,i<n*sz->C[i]?=some (G i):=by
 obtain⟨k,cap,C,rfl,h2,h3,h4,h5,h6,h7⟩:=h.aF hn;exact⟨dL.2 rfl,C,h3,h7⟩
theorem bh.eK{X w:World}{t:TypeId}{sz n d:Nat}{v:Value}{G:Nat->Value}(h:bh X w t sz v n G)(hd:X.heap.size<=d/\d<w.heap.size):X.heap.size<=Go.Proofs.YtmahadmefplbnaaGreatDoor.du d v/\Go.Proofs.YtmahadmefplbnaaGreatDoor.du d v<w.heap.size:=by
 rcases h with⟨rfl,rfl⟩|⟨k,cap,C,rfl,h2,h3,_⟩
 ·exact hd
 ·exact⟨h2,h3.lt⟩
def om(p:Nat)(vb vl vo vw:Value)(vf:Nat->Value):TM where
 bb:=du p vb
 bc:=pZ vb
 lb:=du p vl
 lc:=pZ vl
 ob:=du p vo
 oc:=pZ vo
 wb:=du p vw
 wcap:=pZ vw
 fb i:=du p (vf i)
 fc i:=pZ (vf i)
 bx:=Da vb
 lx:=Da vl
 ox:=Da vo
 wx:=Da vw
 fx i:=Da (vf i)
theorem OS.ta{X W:World}{P:LP}{p:Nat}{vb vl vo vw:Value}{vf:Nat->Value}(h:OS X P p vb vl vo vb P.m vl P.m P.m vo P.n vw vf W):TA X P P.first p (om p vb vl vo vw vf) W:=by
 have hp:=And.intro h.up h.tab.lt;refine⟨⟨⟨_,h.tab,?_⟩,fun hm=>?_,fun hm=>?_,fun hn=>?_,fun hn=>?_,fun hn i hi=>?_,fun hn i i' hi hi' e=>?_,fun hn i hi e=>?_,fun hm hn e=>?_,?_⟩,?_,?_⟩
 ·simp only[p9,om,LP.first];refine⟨rfl,?_,?_,?_,by rw[cX];rfl,?_⟩
  ·rw[← (h.b.shape (d:=p)).1];rfl
  ·rw[← (h.l.shape (d:=p)).1];rfl
  ·rw[← (h.o.shape (d:=p)).1];rfl
  ·rw[← (h.w.shape (d:=p)).1];rfl
 ·obtain⟨_,C,b,c⟩:=h.b.du (d:=p) hm;exact⟨C,b,fun i hi=>by rw[c i ae];simp only[LP.first];rw[Int.natCast_add]⟩
 ·obtain⟨_,C,b,c⟩:=h.l.du (d:=p) hm;refine⟨C,b,fun i hi=>⟨by rw[c _ ae,ES];rfl,?_⟩⟩;rw[c _ ae,EP];simp only[om];rw[← ((h.f i hi).shape (d:=p)).1]
 ·obtain⟨_,C,b,c⟩:=h.o.du (d:=p) hn;exact⟨C,b,fun j hj=>by rw[c j ae];rfl⟩
 ·obtain⟨_,C,b,c⟩:=h.w.du (d:=p) hn;exact⟨C,b,fun j hj=>by rw[c j ae];rfl⟩
 ·obtain⟨_,C,b,c⟩:=(h.f i hi).du (d:=p) hn;exact⟨C,b,fun j hj=>by rw[c j ae];rfl⟩
 ·rcases Nat.lt_or_ge i i' with h'|h'
  ·exact absurd ((h.f i' hi').du (d:=p) hn).1 (by rw[show du p (vf i')=du p (vf i) from e.symm];exact h.ff i i' hi hi' ae _ ((h.f i hi).du (d:=p) hn).1)
  ·rcases Nat.lt_or_ge i' i with h''|h''
   ·exact absurd ((h.f i' hi').du (d:=p) hn).1 (by rw[show du p (vf i')=du p (vf i) from e.symm];exact h.ff i i' hi hi' ae _ ((h.f i hi).du (d:=p) hn).1)
   ·omega
 ·exact absurd (h.w.du (d:=p) hn).1 (by rw[show du p vw=du p (vf i) from e.symm];exact h.fw i hi _ ((h.f i hi).du (d:=p) hn).1)
 ·exact absurd (h.o.du (d:=p) hn).1 (by rw[show du p vo=du p vb from e.symm];exact h.bo _ (h.b.du (d:=p) hm).1)
 ·exact⟨(h.b.shape (d:=p)).2,(h.l.shape (d:=p)).2,(h.o.shape (d:=p)).2,(h.w.shape (d:=p)).2,fun i hi=>((h.f i hi).shape (d:=p)).2⟩
 ·rintro k (rfl|rfl|rfl|rfl|rfl|⟨i,hi,rfl⟩)
  ·exact hp.1
  ·exact(h.b.eK hp).1
  ·exact(h.l.eK hp).1
  ·exact(h.o.eK hp).1
  ·exact(h.w.eK hp).1
  ·exact((h.f i hi).eK hp).1
 ·rintro k (rfl|rfl|rfl|rfl|rfl|⟨i,hi,rfl⟩)
  ·exact hp.2
  ·exact(h.b.eK hp).2
  ·exact(h.l.eK hp).2
  ·exact(h.o.eK hp).2
  ·exact(h.w.eK hp).2
  ·exact((h.f i hi).eK hp).2
theorem dC:prog.underlying 30=some (.slice 34):=ag
theorem A8 {v:Value} {n:Nat} {g:Nat->Value} {w:World} (h:Rd w v n g) (h1:∀ j,j<n->(g j).oneCell'=true) (hn:n<=1000) :
    Calls prog 194 #[v] w fun e w'=>∃ v',e = .returned v'/\Ext w w'/\bh w w' 34 1 v' n g:=by
 obtain⟨ao,cap,rfl,c1,c2,hc⟩:=h;cases ao with
 | none =>
  have hn0:n=0:=by
   rcases Nat.eq_zero_or_pos n with h|h
   ·exact h
   ·obtain⟨a,e,_⟩:=hc 0 h;cases e
  subst hn0;have hb:∀ W,(binOp BinOp.eql 30 (.slice none 0 cap) (.slice none 0 0)).run prog W = .ok (.bool true) W:=fun W=>ag
  clear hc;go_enter func194,ntmps194;go_wp2;go_ret;exact⟨_,rfl,Ext.refl _,Or.inl ⟨rfl,rfl⟩⟩
 | some a =>
  have HC:Hid (∀ j,j<n->w.cell? (a.add j)=some (g j)):=aj (fun j hj=>by obtain⟨b,e,h⟩:=hc j hj;rw[Option.some.inj e];exact h);have H1:=aj h1;have hb:∀ W,(binOp BinOp.eql 30 (.slice (some a) n cap) (.slice none 0 0)).run prog W = .ok (.bool false) W:=fun W=>ag
  clear hc h1;have hs:n<=maxLen:=Nat.le_trans c1 c2;go_enter func194,ntmps194;have hX:Ext w (w.alloc (.cells #[] 34)):=(Ext.refl w).alloc _;have hO:bh w (w.alloc (.cells #[] 34)) 34 1 (.slice (some ⟨w.heap.size,0,none⟩) 0 0) 0 g:=Or.inr ⟨_,0,#[],rfl,Nat.le_refl _,ax.new _ _ _,Nat.le_refl _,Nat.zero_le _,rfl,fun i hi=>ae⟩;have HX:=aj hX;have HO:=aj hO;clear hX hO;go_wp2_with (at_builtin;refine wpList_plain rfl fun K_ hK_=>fD (X:=w) (G:=g) (H:=g) rfl rfl rfl dC dQ rfl HX.o HO.o (fun e=>by cases e) (fun j hj=>az HX.o (HC.o j ae)) (fun j hj=>H1.o j ae) ae ae (fun v' w' hA=>hK_ _ _ ?_));have HA:=aj hA;clear hA;go_wp2;go_ret;refine⟨_,rfl,HA.o.mv.ext,?_⟩;have:=HA.o.own;rw[Nat.zero_add] at this;exact this.congr (fun i hi=>by rw[dw ae];simp)
def Rw(w:World)(v:Value)(m:Nat)(a b:Nat->Value):Prop:=∃ (ao:Option Addr) (cap:Nat),v = .slice ao m cap/\m<=cap/\cap<=maxLen /\
 ∀ i,i<m->∃ lb o,ao=some ⟨lb,o,none⟩/\w.cell? ⟨lb,o+i*2,none⟩=some (a i)/\w.cell? ⟨lb,o+i*2+1,none⟩=some (b i)
theorem Rw.ext{w w':World}{v:Value}{m:Nat}{a b:Nat->Value}(h:Rw w v m a b)(e:Ext w w'):Rw w' v m a b:=by
 obtain⟨ao,cap,h1,h2,h3,h4⟩:=h;exact⟨ao,cap,h1,h2,h3,fun i hi=>let ⟨lb,o,e1,e2,e3⟩:=h4 i hi;⟨lb,o,e1,az e e2,az e e3⟩⟩
structure PM(P:LP)(w:World)(vr vc:Value)(va:Nat->Value):Prop where
 rows:Rw w vr P.m va (fun i => .string (qs (P.B i)))
 j1:∀ i,i<P.m->Rq w (va i) P.n (P.A i)
 obj:Rq w vc P.n P.C
theorem PM.ext{P:LP}{w w':World}{vr vc:Value}{va:Nat->Value}(h:PM P w vr vc va)(e:Ext w w'):PM P w' vr vc va:=⟨h.rows.ext e,fun i hi=>(h.j1 i hi).ext e,h.obj.ext e⟩
def Ec(P:LP)(w:World)(e:Ending)(w':World):Prop:=∃ (pk:Nat) (M:TM),e = .returned (.pointer (some ⟨pk,0,none⟩))/\Ext w w'/\TA w P P.first pk M w'
theorem tB:prog.underlying 85=some (.slice 3):=ag
theorem yV:(prog.info? 3).map (fun i=>(i.zero,i.size,i.bytes))=some (some (.int .i64 0),1,8):=ag
theorem zV:prog.underlying 183=some (.slice 182):=ag
theorem CE:(prog.info? 182).map (fun i=>(i.zero,i.size,i.bytes))=some (some (.agg #[.string ⟨#[]⟩,.slice none 0 0]),2,40):=ag
theorem sI{X w W:World}{t:TypeId}{sz n:Nat}{v:Value}{G:Nat->Value}(e:Ext w W)(h:bh w W t sz v n G)(hs:X.heap.size<=w.heap.size):bh X W t sz v n G:=by
 rcases h with h|⟨k,cap,C,h1,h2,h3⟩
 ·exact Or.inl h
 ·exact Or.inr ⟨k,cap,C,h1,Nat.le_trans hs h2,h3⟩
theorem bh.one{X w:World}{t:TypeId}{sz n:Nat}{v:Value}{G:Nat->Value}(h:bh X w t sz v n G):v.oneCell'=true:=by
 rcases h with⟨rfl,_⟩|⟨k,cap,C,rfl,_⟩ <;> rfl
theorem bh.cH{X w:World}{t:TypeId}{sz n:Nat}{v:Value}{G:Nat->Value}(h:bh X w t sz v n G):∃ a k c,v = .slice a k c:=by
 rcases h with⟨rfl,_⟩|⟨k,cap,C,rfl,_⟩ <;> exact⟨_,_,_,rfl⟩
theorem bE {P:Program} {X w:World} {e:TypeId} {z:Value} {sz bytes n m c:Nat} {v:Value} {G H:Nat->Value} {ad:Addr} {o:Oper} {a:Act} {Q:Exit->Act->World->Prop} {K:Act->World->Prop} {s x:Operand} {t:TypeId} (ho:o.op = .call { callee:=.builtin .append,args:=#[s,x],argTypes:=#[t,t] })
    (hs:a.eval s=v) (hx:a.eval x = .slice (some ad) m c) (ht:P.underlying t=some (.slice e)) (hi:(P.info? e).map (fun i=>(i.zero,i.size,i.bytes))=some (some z,sz,bytes)) (hzs:z.cells.size=sz)
    (hX:Ext X w) (h:bh X w e sz v n G) (hm0:v = .slice none 0 0->0<m) (hsrc:∀ j,j<m*sz->w.cell? (ad.add j)=some (H j)) (h1:∀ j,j<m*sz->(H j).oneCell'=true) (h63:n+m<=maxLen) (hb:(n+m)*bytes<=140737488355328)
    (hK:∀ b k c w',App X w e sz v n m G H (.slice b k c) w'->K (a.put o.dst (.slice b k c)) w'):o.wp P a w K Q :=
 fD ho hs hx ht hi hzs hX h hm0 hsrc h1 h63 hb fun v' w' hA=>by
  obtain⟨b,k,c,rfl⟩:=hA.own.cH;exact hK b k c w' hA
theorem EG{X w:World}{t:TypeId}{v:Value}{n:Nat}{G H:Nat->Value}(h:bh X w t 1 v (n+1) (app (n*1) G H))(hH:H 0=G n):bh X w t 1 v (n+1) G:=h.congr (fun i hi=>by
 by_cases e:i<n
 ·rw[dF ae]
 ·have:i=n:=ae;subst this;rw[dw ae,show i-i*1=0 by omega,hH])
theorem tC{w:World}{b:Nat}{t:TypeId}{x y:Value}(h:ax w b #[x,y] t):∀ j,j<1*2->w.cell? ((⟨b,0,none⟩:Addr).add j)=some (if j=0 then x else y):=fun j hj=>by
 rcases (by omega:j=0∨j=1) with rfl|rfl
 ·exact cZ h rfl
 ·exact cZ h rfl
theorem tD{x y:Value}(hx:x.oneCell'=true)(hy:y.oneCell'=true):∀ j,j<1*2->(if j=0 then x else y).oneCell'=true:=fun j hj=>by
 split
 ·exact hx
 ·exact hy
theorem Aw(P:LP)(vr0 vc:Value)(va:Nat->Value){q:Nat}(w:World)(g:Gd w)(hP:PM P w vr0 vc va)(hn:P.n<=1000)(hm:P.m<=1000)(hq2:q<=400)(qa:∀ i,i<P.m->∀ j,j<P.n->QB q (P.A i j)):Calls prog 121 #[.agg #[.int .i64 (P.n:Int),vr0,vc]] w (Ec P w):=by
 have HG:=aj g;have HQA:=aj qa;clear g qa;have HPO:=aj hP.obj;have HPF:=aj hP.j1;obtain⟨ro,rcap,rfl,_,_,hrr⟩:=hP.rows;have HRR:=aj hrr;clear hrr hP;go_enter func121,ntmps121;go_wp2_with fail;refine ay (fun W=>Ext w W/\ax W (w.heap.size) (#[.int .i64 (P.n:Int),.slice ro P.m rcap,vc]) 32) ⟨((Ext.refl w).alloc _),(ax.nw (#[.int .i64 (P.n:Int),.slice ro P.m rcap,vc]) 32)⟩ ?_;rintro w1 ⟨e1,bB0_1⟩;have HX1:=aj e1;have HB0_1:=aj bB0_1;have HGEB0:Hid (w.heap.size<=w.heap.size):=aj (Nat.le_refl _);clear e1 bB0_1;refine aD [.val (.pointer (some ⟨w.heap.size,0,none⟩)),.val (.int .i64 (P.n:Int)),.val (.pointer (some ⟨w.heap.size,2,none⟩)),.val (vc),.aJ,.aJ,.aJ,.aJ,.aJ] (fun L g W=>(L 4=true->bh w W 34 1 (g 4) P.n (fun j => .string (qs (P.C j))))/\(L 5=true->g 5 = .agg #[.string ⟨#[48]⟩,g 4])/\(L 6=true->g 6 = .agg #[.int .i64 (P.n:Int),.slice none 0 0,.slice none 0 0,.slice none 0 0,.string ⟨#[48]⟩,g 4])/\(L 7=true->∃ pk,g 7 = .pointer (some ⟨pk,0,none⟩)/\w.heap.size<=pk/\ax W pk #[.int .i64 (P.n:Int),.slice none 0 0,.slice none 0 0,.slice none 0 0,.string ⟨#[48]⟩,g 4] 185)/\(L 8=true->g 8=g 7)) (S:=fun _=>False) ag ag ag (Mv.refl HX1.o (fun k h=>h.elim)) ?_ ?_ ?_ ?_ (fun gv_ w2 hm_ he_=>?_)
 ·exact fun g=>⟨fun h=>absurd h af,fun h=>absurd h af,fun h=>absurd h af,fun h=>absurd h af,fun h=>absurd h af⟩
 ·exact fun L g W W1 h e=>⟨fun a=>(h.1 a).ext e,h.2.1,h.2.2.1,fun a=>let ⟨pk,x,y,z⟩:=h.2.2.2.1 a;⟨pk,x,y,z.ext e⟩,h.2.2.2.2⟩
 ·intro i v L g W hi h;have n4_:i≠4:=fun e=>by subst e;exact absurd (show false=true from hi) af
  have n5_:i≠5:=fun e=>by subst e;exact absurd (show false=true from hi) af
  have n6_:i≠6:=fun e=>by subst e;exact absurd (show false=true from hi) af
  have n7_:i≠7:=fun e=>by subst e;exact absurd (show false=true from hi) af
  have n8_:i≠8:=fun e=>by subst e;exact absurd (show false=true from hi) af
  simp only[av n4_,aw n4_,av n5_,aw n5_,av n6_,aw n6_,av n7_,aw n7_,av n8_,aw n8_];exact h
 ·skip
  refine RI 1 (.pointer (some ⟨w.heap.size,0,none⟩))<|J2 (fun hs_=>hs_.val 0) (fun hs_=>(hs_.mv.aF HB0_1.o (fun h=>h)).cell 0 rfl)<|RI 1 (.pointer (some ⟨w.heap.size,0,none⟩))<|J2 (fun hs_=>hs_.val 2) (fun hs_=>(hs_.mv.aF HB0_1.o (fun h=>h)).cell 2 rfl) ?_;refine aB.cons (fun L_ g_ A_ W_ hs_=>?_) ?_
  ·have q13_:=hs_.val 3;refine bQ.aJ fun K_ hK_=>?_;have n5_:=hs_.no 5 af ag;have n6_:=hs_.no 6 af ag;have n7_:=hs_.no 7 af ag;have n8_:=hs_.no 8 af ag;have HN_:=aj (And.intro n5_ (And.intro n6_ (And.intro n7_ n8_)));clear n5_ n6_ n7_ n8_;have HE_:=aj hs_.e;have HM_:=aj hs_.mv;go_simp;refine(A8 (g:=(fun j => .string (qs (P.C j)))) (HPO.o.ext hs_.mv.ext) (fun _ _=>rfl) hn).mono ?_;rintro e W9_ ⟨v_,rfl,e9_,ho_⟩;exact hK_.o v_ W9_ (HM_.o.trans e9_) (by simp only[aE,aH,av (show(4:Nat)≠5 by decide),aw (show(4:Nat)≠5 by decide),av (show(4:Nat)≠6 by decide),aw (show(4:Nat)≠6 by decide),av (show(4:Nat)≠7 by decide),aw (show(4:Nat)≠7 by decide),av (show(4:Nat)≠8 by decide),aw (show(4:Nat)≠8 by decide),HN_.o.1,HN_.o.2.1,HN_.o.2.2.1,HN_.o.2.2.2];exact⟨fun _=>sI e9_ ho_ (HM_.o.ext.size),(fun h=>by cases h),(fun h=>by cases h),(fun h=>by cases h),(fun h=>by cases h)⟩)
  refine aB.cons (fun L_ g_ A_ W_ hs_=>?_) ?_
  ·have q14_:=hs_.aJ 4;refine bQ.aJ fun K_ hK_=>?_;have y4_:=hs_.yes 4 ag;have n6_:=hs_.no 6 af ag;have n7_:=hs_.no 7 af ag;have n8_:=hs_.no 8 af ag;obtain⟨a_,n_,c_,es_⟩:=(hs_.e.1 y4_).cH;rw[es_] at q14_;have HES:=aj es_;clear es_;have HN_:=aj (And.intro y4_ (And.intro n6_ (And.intro n7_ n8_)));clear y4_ n6_ n7_ n8_;have he0_:=hs_.e;rw[HES.o] at he0_;have HE_:=aj he0_;have HM_:=aj hs_.mv;clear he0_;go_simp;exact hK_.o _ _ HM_.o (by simp only[aE,aH,av (show(5:Nat)≠4 by decide),aw (show(5:Nat)≠4 by decide),av (show(5:Nat)≠6 by decide),aw (show(5:Nat)≠6 by decide),av (show(5:Nat)≠7 by decide),aw (show(5:Nat)≠7 by decide),av (show(5:Nat)≠8 by decide),aw (show(5:Nat)≠8 by decide),HN_.o.1,HN_.o.2.1,HN_.o.2.2.1,HN_.o.2.2.2,HES.o];exact⟨fun _=>HE_.o.1 HN_.o.1,fun _=>by first|rfl|trivial,(fun h=>by cases h),(fun h=>by cases h),(fun h=>by cases h)⟩)
  refine aB.cons (fun L_ g_ A_ W_ hs_=>?_) ?_
  ·have q11_:=hs_.val 1;have q15_:=hs_.aJ 5;refine bQ.aJ fun K_ hK_=>?_;have y4_:=hs_.yes 4 ag;have y5_:=hs_.yes 5 ag;have n7_:=hs_.no 7 af ag;have n8_:=hs_.no 8 af ag;have e5_:=hs_.e.2.1 y5_;obtain⟨a_,n_,c_,es_⟩:=(hs_.e.1 y4_).cH;rw[e5_,es_] at q15_;have HES:=aj es_;clear e5_ es_;have HN_:=aj (And.intro y4_ (And.intro y5_ (And.intro n7_ n8_)));clear y4_ y5_ n7_ n8_;have he0_:=hs_.e;rw[HES.o] at he0_;have HE_:=aj he0_;have HM_:=aj hs_.mv;clear he0_;go_simp;exact hK_.o _ _ HM_.o (by simp only[aE,aH,av (show(6:Nat)≠4 by decide),aw (show(6:Nat)≠4 by decide),av (show(6:Nat)≠5 by decide),aw (show(6:Nat)≠5 by decide),av (show(6:Nat)≠7 by decide),aw (show(6:Nat)≠7 by decide),av (show(6:Nat)≠8 by decide),aw (show(6:Nat)≠8 by decide),HN_.o.1,HN_.o.2.1,HN_.o.2.2.1,HN_.o.2.2.2,HES.o];exact⟨fun _=>HE_.o.1 HN_.o.1,fun _=>HE_.o.2.1 HN_.o.2.1,fun _=>by first|rfl|trivial,(fun h=>by cases h),(fun h=>by cases h)⟩)
  refine aB.cons (fun L_ g_ A_ W_ hs_=>?_) ?_
  ·have q16_:=hs_.aJ 6;refine bQ.aJ fun K_ hK_=>?_;have y4_:=hs_.yes 4 ag;have y5_:=hs_.yes 5 ag;have y6_:=hs_.yes 6 ag;have n8_:=hs_.no 8 af ag;have e6_:=hs_.e.2.2.1 y6_;obtain⟨a_,n_,c_,es_⟩:=(hs_.e.1 y4_).cH;rw[e6_,es_] at q16_;have HES:=aj es_;clear e6_ es_;have HN_:=aj (And.intro y4_ (And.intro y5_ (And.intro y6_ n8_)));clear y4_ y5_ y6_ n8_;have he0_:=hs_.e;rw[HES.o] at he0_;have HE_:=aj he0_;have HM_:=aj hs_.mv;clear he0_;go_simp;exact hK_.o _ _ (HM_.o.alloc _) (by simp only[aE,aH,av (show(7:Nat)≠4 by decide),aw (show(7:Nat)≠4 by decide),av (show(7:Nat)≠5 by decide),aw (show(7:Nat)≠5 by decide),av (show(7:Nat)≠6 by decide),aw (show(7:Nat)≠6 by decide),av (show(7:Nat)≠8 by decide),aw (show(7:Nat)≠8 by decide),HN_.o.1,HN_.o.2.1,HN_.o.2.2.1,HN_.o.2.2.2,HES.o];exact⟨fun _=>(HE_.o.1 HN_.o.1).ext ((Ext.refl _).alloc _),fun _=>HE_.o.2.1 HN_.o.2.1,fun _=>HE_.o.2.2.1 HN_.o.2.2.1,fun _=>⟨_,rfl,HM_.o.ext.size,ax.new _ _ _⟩,(fun h=>by cases h)⟩)
  refine aB.cons (fun L_ g_ A_ W_ hs_=>?_) ?_
  ·have q17_:=hs_.aJ 7;refine bQ.aJ fun K_ hK_=>?_;have y4_:=hs_.yes 4 ag;have y5_:=hs_.yes 5 ag;have y6_:=hs_.yes 6 ag;have y7_:=hs_.yes 7 ag;have HN_:=aj (And.intro y4_ (And.intro y5_ (And.intro y6_ y7_)));clear y4_ y5_ y6_ y7_;have HE_:=aj hs_.e;have HM_:=aj hs_.mv;go_simp;exact hK_.o _ _ HM_.o (by simp only[aE,aH,av (show(8:Nat)≠4 by decide),aw (show(8:Nat)≠4 by decide),av (show(8:Nat)≠5 by decide),aw (show(8:Nat)≠5 by decide),av (show(8:Nat)≠6 by decide),aw (show(8:Nat)≠6 by decide),av (show(8:Nat)≠7 by decide),aw (show(8:Nat)≠7 by decide),HN_.o.1,HN_.o.2.1,HN_.o.2.2.1,HN_.o.2.2.2];exact⟨fun _=>HE_.o.1 HN_.o.1,fun _=>HE_.o.2.1 HN_.o.2.1,fun _=>HE_.o.2.2.1 HN_.o.2.2.1,fun _=>HE_.o.2.2.2.1 HN_.o.2.2.2,fun _=>by first|rfl|trivial⟩)
  exact aB.nil
 simp only[fT,Ke.value,bD,Act.put,List.setIfInBounds_toArray,List.set_cons_zero,List.set_cons_succ,Nat.reduceAdd];have HX2:Hid (Ext w w2):=aj hm_.ext;have HB0_2:=aj (hm_.aF HB0_1.o (fun h=>h));obtain⟨pk,e7_,gp_,bp_⟩:=he_.2.2.2.1 rfl;have e8_:=(he_.2.2.2.2 rfl).trans e7_;have ow_:=he_.1 rfl;rw[e8_,e7_];obtain⟨vw,ev_⟩:∃ v,gv_ 4=v:=⟨_,rfl⟩
 rw[ev_] at bp_ ow_ ⊢;have HBS_2:Hid (OS w P pk (.slice none 0 0) (.slice none 0 0) (.slice none 0 0) (.slice none 0 0) 0 (.slice none 0 0) 0 0 (.slice none 0 0) 0 vw (fun _=>(.slice none 0 0)) w2):=aj ⟨bp_,gp_,bh.nil _ _ _ _ _,bh.nil _ _ _ _ _,bh.nil _ _ _ _ _,ow_,fun i hi=>absurd hi (Nat.not_lt_zero i),fun k hk=>absurd hk iL,fun i hi=>absurd hi (Nat.not_lt_zero i),fun i i2 hi=>absurd hi (Nat.not_lt_zero i)⟩;clear e7_ e8_ gp_ bp_ ow_ ev_;clear hm_ he_;have c0_0:=HB0_2.o.cell 0 rfl;go_wp2_with fail;clear c0_0;go_loopw [20] (fun x0_ wx=>∃ i:Nat,x0_ = .int .i64 i/\i<=P.n/\Hid (Ext w wx/\ax wx (w.heap.size) (#[.int .i64 (P.n:Int),.slice ro P.m rcap,vc]) 32/\(∃ vo,OS w P pk (.slice none 0 0) (.slice none 0 0) vo (.slice none 0 0) 0 (.slice none 0 0) 0 0 vo i vw (fun _=>(.slice none 0 0)) wx))) (fun x0_ _=>P.n-(intOf x0_).toNat)
 case atStart=>exact⟨0,rfl,Nat.zero_le _,aj ⟨HX2.o,HB0_2.o,⟨_,HBS_2.o⟩⟩⟩
 case round =>
  rename World=>w3
  obtain⟨i,rfl,hki,HH⟩:=hrel;have HX3:=aj HH.o.1;have HB0_3:=aj HH.o.2.1;obtain⟨vo,a1_⟩:=HH.o.2.2;have HBS_3:=aj a1_;clear a1_;clear HH;by_cases hlt:i<P.n
  ·have hlt2:(i:Int)<((P.n:Nat):Int):=ae;have cS_3:=HBS_3.o.d3;go_wp2_with (
    at_builtin;refine wpList_plain rfl fun K_ hK_=>bE (X:=w) (H:=fun _ => .int .i64 (i:Int)) (ad:=⟨w3.heap.size,0,none⟩) (m:=1) (c:=1) (v:=vo) rfl rfl rfl tB yV rfl (HX3.o.alloc _) (HBS_3.o.alloc _).o (fun _=>af) (fun j hj=>by obtain rfl:j=0:=ae;exact cZ (ax.nw (#[.int .i64 (i:Int)]) 3) rfl) (fun _ _=>rfl) (by unfold maxLen;omega) ae (fun a4_ n4_ c4_ w4 hA_=>hK_ _ _ ?_)
    have HX4:Hid (Ext w w4):=aj hA_.mv.ext;have HB0_4:Hid (ax w4 (w.heap.size) (#[.int .i64 (P.n:Int),.slice ro P.m rcap,vc]) 32):=aj (hA_.mv.aF (HB0_3.o.alloc _) (HBS_3.o.o.aI HB0_3.o af));have HBS_4:Hid (OS w P pk (.slice none 0 0) (.slice none 0 0) vo (.slice none 0 0) 0 (.slice none 0 0) 0 0 (.slice a4_ n4_ c4_) (i+1) vw (fun _=>(.slice none 0 0)) w4):=aj ((HBS_3.o.alloc _).D4 hA_ rfl);clear hA_ cS_3;have cS_3:=HBS_4.o.d3;have fS_3:=HBS_4.o.free 3
   )
   go_roundw
   case rel=>exact⟨i+1,by go_num,ae,aj ⟨(HX4.o.setCell (HBS_2.o.up) _),(HB0_4.o.other (a:=⟨pk,3,none⟩) _ (aY HB0_4.o HBS_4.o.tab af)),⟨_,(HBS_4.o.Es (.slice a4_ n4_ c4_))⟩⟩⟩
   case measure=>simp[intOf];omega
  ·have hk2:i=P.n:=ae;have hge:¬ (i:Int)<((P.n:Nat):Int):=ae;have HBSx:Hid (OS w P pk (.slice none 0 0) (.slice none 0 0) vo (.slice none 0 0) 0 (.slice none 0 0) 0 0 vo P.n vw (fun _=>(.slice none 0 0)) w3):=aj (hk2▸HBS_3.o);clear hk2;have c0_1:=HB0_3.o.cell 1 rfl;go_wp2_with fail;clear c0_1;go_loopw [37] (fun x0_ wx=>∃ k:Nat,x0_ = .int .i64 k/\k<=P.m/\Hid (Ext w wx/\ax wx (w.heap.size) (#[.int .i64 (P.n:Int),.slice ro P.m rcap,vc]) 32/\(∃ vb vl vf,OS w P pk vb vl vo vb k vl k k vo P.n vw vf wx))) (fun x0_ _=>P.m-(intOf x0_).toNat)
   case atStart=>exact⟨0,rfl,Nat.zero_le _,aj ⟨HX3.o,HB0_3.o,⟨_,_,_,HBSx.o⟩⟩⟩
   case round =>
    rename World=>w4
    obtain⟨k,rfl,hkk,HH⟩:=hrel;have HX4:=aj HH.o.1;have HB0_4:=aj HH.o.2.1;obtain⟨vb,vl,vf,a1_⟩:=HH.o.2.2;have HBS_4:=aj a1_;clear a1_;clear HH;by_cases hlt:k<P.m
    ·have hlt2:(k:Int)<((P.m:Nat):Int):=ae;obtain⟨ra,o_,rfl,zr_,zs_⟩:=HRR.o k hlt;obtain⟨fo,fcap,ef_,_,_,hf_⟩:=HPF.o k hlt;rw[ef_] at zr_;have HCr:=aj zr_;have HCs:=aj zs_;have HFK:=aj hf_;clear zr_ zs_ hf_ ef_;have hltk:=hlt;have HLK:=aj hltk;clear hltk;have cr_o____k___2:=az HX4.o (HCr.o);have cr_o____k___2___1:=az HX4.o (HCs.o);go_upto_region 10 with fail
     have HNEBSB1:Hid (∀ q_,OD pk vb vl vo vw vf k q_->q_≠w4.heap.size):=aj (HBS_4.o.ne ah);refine ay (fun W=>Ext w W/\ax W (w.heap.size) (#[.int .i64 (P.n:Int),.slice (some ⟨ra,o_,none⟩) P.m rcap,vc]) 32/\OS w P pk vb vl vo vb k vl k k vo P.n vw vf W/\ax W (w4.heap.size) (#[.slice fo P.n fcap,.string (qs (P.B k))]) 97) ⟨(HX4.o.alloc _),(HB0_4.o.alloc _),(HBS_4.o.alloc _),(ax.nw (#[.slice fo P.n fcap,.string (qs (P.B k))]) 97)⟩ ?_;rintro w5 ⟨e5,bB0_5,bBS_5,bB1_5⟩;have HX5:=aj e5;have HB0_5:=aj bB0_5;have HBS_5:=aj bBS_5;have HB1_5:=aj bB1_5;have HGEB1:Hid (w.heap.size<=w4.heap.size):=aj (HX4.o.size);clear e5 bB0_5 bBS_5 bB1_5 cr_o____k___2 cr_o____k___2___1;have c1_1:=HB1_5.o.cell 1 rfl;go_upto_region 11 with fail
     have HNEBSB2:Hid (∀ q_,OD pk vb vl vo vw vf k q_->q_≠w5.heap.size):=aj (HBS_5.o.ne ah);refine ay (fun W=>Ext w W/\ax W (w.heap.size) (#[.int .i64 (P.n:Int),.slice (some ⟨ra,o_,none⟩) P.m rcap,vc]) 32/\OS w P pk vb vl vo vb k vl k k vo P.n vw vf W/\ax W (w4.heap.size) (#[.slice fo P.n fcap,.string (qs (P.B k))]) 97/\ax W (w5.heap.size) (#[.string (qs (P.B k)),.slice none 0 0]) 182) ⟨(HX5.o.alloc _),(HB0_5.o.alloc _),(HBS_5.o.alloc _),(HB1_5.o.alloc _),(ax.nw (#[.string (qs (P.B k)),.slice none 0 0]) 182)⟩ ?_;rintro w6 ⟨e6,bB0_6,bBS_6,bB1_6,bB2_6⟩;have HX6:=aj e6;have HB0_6:=aj bB0_6;have HBS_6:=aj bBS_6;have HB1_6:=aj bB1_6;have HB2_6:=aj bB2_6;have HGEB2:Hid (w.heap.size<=w5.heap.size):=aj (HX5.o.size);clear e6 bB0_6 bBS_6 bB1_6 bB2_6 c1_1;have c1_0:=HB1_6.o.cell 0 rfl;go_wp2_with fail;clear c1_0;have HOLT:Hid (∀ q,OD pk vb vl vo vw vf k q->q<w6.heap.size):=aj HBS_6.o.lt;have HB7L:Hid (w5.heap.size<w6.heap.size):=aj HB2_6.o.lt;go_wp2_with fail;go_loopw [48] (fun x0_ wx=>∃ j:Nat,x0_ = .int .i64 j/\j<=P.n/\Hid (Ext w wx/\ax wx (w.heap.size) (#[.int .i64 (P.n:Int),.slice (some ⟨ra,o_,none⟩) P.m rcap,vc]) 32/\OS w P pk vb vl vo vb k vl k k vo P.n vw vf wx/\ax wx (w4.heap.size) (#[.slice fo P.n fcap,.string (qs (P.B k))]) 97/\(∃ vr,ax wx (w5.heap.size) #[.string (qs (P.B k)),vr] 182/\bh w wx 34 1 vr j (fun j => .string (qs (-P.A k j)))/\(∀ q,c7 vr q->w6.heap.size<=q)/\w6.heap.size<=wx.heap.size))) (fun x0_ _=>P.n-(intOf x0_).toNat)
     case atStart=>exact⟨0,rfl,Nat.zero_le _,aj ⟨HX6.o,HB0_6.o,HBS_6.o,HB1_6.o,⟨_,HB2_6.o,bh.nil _ _ _ _ _,fun q hq=>absurd hq iL,Nat.le_refl _⟩⟩⟩
     case round =>
      rename World=>w7
      obtain⟨j,rfl,hkj,HH⟩:=hrel;have HX7:=aj HH.o.1;have HB0_7:=aj HH.o.2.1;have HBS_7:=aj HH.o.2.2.1;have HB1_7:=aj HH.o.2.2.2.1;obtain⟨vr,a1_,a2_,a3_,a4_⟩:=HH.o.2.2.2.2;have HB2_7:=aj a1_;have HVR:=aj a2_;have HVG:=aj a3_;have HWL:=aj a4_;clear a1_ a2_ a3_ a4_;clear HH;by_cases hlt:j<P.n
      ·have hlt2:(j:Int)<((P.n:Nat):Int):=ae;obtain⟨fa,rfl,zf_⟩:=HFK.o j hlt;have HCf:=aj zf_;clear zf_;have cf_j:=az HX7.o (HCf.o);go_wp2_with fail;clear cf_j;go_wp2_with fail;refine aD [.val (.pointer (some ⟨w5.heap.size,1,none⟩)),.val (vr),.val (.string (qs (P.A k j))),.val (.string (qs (-P.A k j))),.aJ,.aJ,.val (.pointer (some ⟨w5.heap.size,1,none⟩)),.aJ] (fun L g W=>(L 4=true->∃ b,g 4 = .slice (some ⟨b,0,none⟩) 1 1/\(L 5=false->ax W b #[.string (qs (-P.A k j))] 34))/\(if L 5=true then bh w W 34 1 (g 5) (j+1) (fun j => .string (qs (-P.A k j)))/\∀ q,c7 (g 5) q->w6.heap.size<=q else bh w W 34 1 vr j (fun j => .string (qs (-P.A k j))))/\(if L 7=true then ax W (w5.heap.size) #[.string (qs (P.B k)),g 5] 182 else ax W (w5.heap.size) #[.string (qs (P.B k)),vr] 182)) (S:=fun q=>c7 vr q∨q=w5.heap.size) ag ag ag (Mv.refl HX7.o (fun q h=>h.elim (fun a=>(HVR.o.lt a).1) (fun e=>e▸HGEB2.o))) ?_ ?_ ?_ ?_ (fun gv_ w8 hm_ he_=>?_)
       ·exact fun g=>⟨fun h=>absurd h af,(by rw[if_neg af];exact HVR.o.ext (Ext.refl _).drew),(by rw[if_neg af];exact HB2_7.o.drew)⟩
       ·exact fun L g W W1 h e=>⟨fun a=>let ⟨b,x,y⟩:=h.1 a;⟨b,x,fun z=>(y z).ext e⟩,aL h.2.1 (fun h=>⟨h.1.ext e,h.2⟩) (fun h=>h.ext e),aL h.2.2 (fun h=>h.ext e) (fun h=>h.ext e)⟩
       ·intro i v L g W hi h;have n4_:i≠4:=fun e=>by subst e;exact absurd (show false=true from hi) af
        have n5_:i≠5:=fun e=>by subst e;exact absurd (show false=true from hi) af
        have n7_:i≠7:=fun e=>by subst e;exact absurd (show false=true from hi) af
        simp only[av n4_,aw n4_,av n5_,aw n5_,av n7_,aw n7_];exact h
       ·skip
        refine RI 7 (.pointer (some ⟨w5.heap.size,0,none⟩)) ?_;refine RV (fun A_ hs_ K_ hK_=>?_) ?_;· have q52_:=hs_.val 0;have n7_:=hs_.no 7 af ag;have e_:=hs_.e.2.2;rw[if_neg (by rw[n7_];decide)] at e_;have c7_1:=e_.cell 1 rfl;clear n7_ e_;go_simp;exact dS hK_
        refine RI 9 (.string (qs (P.A k j)))<|K1 (fun hs_=>hs_.val 2) (fun _=>gJ (P.A k j) _ (HQA.o k HLK.o j hlt) ae) ?_;refine aB.cons (fun L_ g_ A_ W_ hs_=>?_) ?_
        ·have q55_:=hs_.val 3;refine bQ.aJ fun K_ hK_=>?_;have n5_:=hs_.no 5 af ag;have n7_:=hs_.no 7 af ag;have e_:=hs_.e;simp only[n5_,n7_,ak,if_false] at e_;have HN_:=aj (And.intro n5_ n7_);have HE_:=aj e_;have HM_:=aj hs_.mv;clear n5_ n7_ e_;go_simp;exact hK_.o _ _ (HM_.o.alloc _) (by simp only[aE,aH,av (show(4:Nat)≠5 by decide),aw (show(4:Nat)≠5 by decide),av (show(4:Nat)≠7 by decide),aw (show(4:Nat)≠7 by decide),HN_.o.1,HN_.o.2,ak,if_false,if_true];exact⟨fun _=>⟨_,rfl,fun _=>ax.new _ _ _⟩,HE_.o.2.1.ext ((Ext.refl _).alloc _),HE_.o.2.2.alloc _⟩)
        refine aB.cons (fun L_ g_ A_ W_ hs_=>?_) ?_
        ·have q53_:=hs_.val 1;have q56_:=hs_.aJ 4;refine bQ.aJ fun K_ hK_=>?_;have n5_:=hs_.not;have n7_:=hs_.no 7 af ag;have y4_:=hs_.yes 4 ag;have e_:=hs_.e;simp only[y4_,n5_,n7_,ak,if_false] at e_;obtain⟨b_,g4_,hb_⟩:=e_.1 trivial;rw[g4_] at q56_;have HN_:=aj (And.intro y4_ n7_);have HE_:=aj e_.2;have HG_:=aj g4_;have HB_:=aj (hb_ trivial);have HM_:=aj hs_.mv;clear y4_ n5_ n7_ e_ g4_ hb_;refine fD (X:=w) (H:=(fun _ => .string (qs (-P.A k j)))) (ad:=⟨b_,0,none⟩) (m:=1) (c:=1) (v:=vr) rfl (by go_simp) (by go_simp) dC dQ rfl HM_.o.ext HE_.o.1 (fun _=>af) (fun i hi=>by obtain rfl:i=0:=ae;exact cZ HB_.o rfl) (fun _ _=>rfl) (by unfold maxLen;omega) ae (fun v_ W9_ hA_=>?_);exact hK_.o v_ W9_ (HM_.o.comp hA_.mv (fun q h=>Or.inl (Or.inl h))) (by simp only[aE,aH,av (show(5:Nat)≠4 by decide),aw (show(5:Nat)≠4 by decide),av (show(5:Nat)≠7 by decide),aw (show(5:Nat)≠7 by decide),HN_.o.1,HN_.o.2,ak,if_false,if_true];exact⟨fun _=>⟨b_,HG_.o,(fun h=>by cases h)⟩,⟨EG hA_.own rfl,fun q hq=>(hA_.new q hq).elim (HVG.o q) (fun e=>Nat.le_trans (Nat.le_trans HWL.o HM_.o.size) e)⟩,hA_.mv.aF HE_.o.2 (HE_.o.1.aI HE_.o.2 af)⟩)
        refine RI 7 (.pointer (some ⟨w5.heap.size,0,none⟩)) ?_;refine aB.cons (fun L_ g_ A_ W_ hs_=>?_) ?_
        ·have q58_:=hs_.val 6;have q57_:=hs_.aJ 5;refine bQ.aJ fun K_ hK_=>?_;have n7_:=hs_.not;have y4_:=hs_.yes 4 ag;have y5_:=hs_.yes 5 ag;have e_:=hs_.e;simp only[y5_,n7_,ak,if_false,if_true] at e_;obtain⟨a_,n_,cc_,es_⟩:=e_.2.1.1.cH;rw[es_] at e_ q57_;have HES:=aj es_;clear es_;have c_:=e_.2.2.cell 1 rfl;have f_:=e_.2.2.free 1;have HN_:=aj (And.intro y4_ y5_);have HE_:=aj e_;have HM_:=aj hs_.mv;clear y4_ y5_ n7_ e_;go_simp;exact hK_.o undef _ (HM_.o.setCell (Or.inl (Or.inr rfl)) _) (by simp only[aE,aH,av (show(7:Nat)≠4 by decide),aw (show(7:Nat)≠4 by decide),av (show(7:Nat)≠5 by decide),aw (show(7:Nat)≠5 by decide),HN_.o.1,HN_.o.2,HES.o,ak,if_false,if_true];exact⟨fun _=>let ⟨b,x,_⟩:=HE_.o.1 HN_.o.1;⟨b,x,(fun h=>by cases h)⟩,⟨HE_.o.2.1.1.other _ (HE_.o.2.1.1.aI HE_.o.2.2 af),HE_.o.2.1.2⟩,HE_.o.2.2.set 1 _⟩)
        exact aB.nil
       simp only[fT,Ke.value,bD,Act.put,List.setIfInBounds_toArray,List.set_cons_zero,List.set_cons_succ,Nat.reduceAdd];have HX8:Hid (Ext w w8):=aj hm_.ext;have HB0_8:=aj (hm_.aF HB0_7.o (fun h=>h.elim (HVR.o.aI HB0_7.o af) (fun e=>(Nat.ne_of_lt HB0_5.o.lt) e)));have HBS_8:=aj (HBS_7.o.EY hm_ (fun q hq h=>h.elim (fun a=>Nat.not_le_of_lt (HOLT.o q hq) (HVG.o q a)) (HNEBSB2.o q hq)));have HB1_8:=aj (hm_.aF HB1_7.o (fun h=>h.elim (HVR.o.aI HB1_7.o af) (fun e=>(Nat.ne_of_lt HB1_5.o.lt) e)));have h_:=he_;simp only[if_true] at h_;obtain⟨vr2,ev_⟩:∃ v,gv_ 5=v:=⟨_,rfl⟩
       rw[ev_] at h_ ⊢;have HVR2:=aj h_.2.1.1;have HVG2:=aj h_.2.1.2;have HB2_8:=aj h_.2.2;have HWL2:Hid (w6.heap.size<=w8.heap.size):=aj (Nat.le_trans HWL.o hm_.size);clear h_ ev_;clear hm_ he_;go_wp2_with fail;go_roundw
       case rel=>exact⟨j+1,by go_num,ae,aj ⟨HX8.o,HB0_8.o,HBS_8.o,HB1_8.o,⟨_,HB2_8.o,HVR2.o,HVG2.o,HWL2.o⟩⟩⟩
       case measure=>simp[intOf];omega
      ·have hk2:j=P.n:=ae;have hge:¬ (j:Int)<((P.n:Nat):Int):=ae;go_wp2_with fail;have HVRn:Hid (bh w w7 34 1 vr P.n (fun j => .string (qs (-P.A k j)))):=aj (hk2▸HVR.o);obtain⟨vg,evg⟩:∃ vg:Nat->Value,vg=(fun i=>if i=k then vr else vf i):=⟨_,rfl⟩
       have HBSf:Hid (OS w P pk vb vl vo vb k vl k (k+1) vo P.n vw vg w7):=aj (evg▸HBS_7.o.EH (Nat.le_refl _) HVRn.o (fun q a c=>Nat.not_le_of_lt (HOLT.o q (Or.inr (Or.inr (Or.inr (Or.inr (Or.inl c)))))) (HVG.o q a)) (fun i hi q a c=>Nat.not_le_of_lt (HOLT.o q (Or.inr (Or.inr (Or.inr (Or.inr (Or.inr ⟨i,hi,c⟩)))))) (HVG.o q a)));have HVK:Hid (vg k=vr):=aj (by rw[evg];exact if_pos rfl);clear evg hk2;go_wp2_with fail;refine aD [.val (.pointer (some ⟨pk,0,none⟩)),.val (.pointer (some ⟨pk,0,none⟩)),.val (.pointer (some ⟨pk,0,none⟩)),.val (.pointer (some ⟨pk,0,none⟩)),.val (.pointer (some ⟨pk,1,none⟩)),.val (vb),.val (.pointer (some ⟨w.heap.size,0,none⟩)),.val (.int .i64 (P.n:Int)),.val (.int .i64 (k:Int)),.val (.int .i64 (P.n+k:Int)),.aJ,.aJ,.val (.pointer (some ⟨pk,0,none⟩)),.val (.pointer (some ⟨pk,0,none⟩)),.val (.pointer (some ⟨pk,2,none⟩)),.val (vl),.val (.agg #[.string (qs (P.B k)),vr]),.aJ,.aJ,.val (.pointer (some ⟨pk,0,none⟩)),.val (.pointer (some ⟨pk,1,none⟩)),.aJ,.val (.pointer (some ⟨pk,0,none⟩)),.val (.pointer (some ⟨pk,2,none⟩)),.aJ] (fun L g W=>(L 10=true->∃ b,g 10 = .slice (some ⟨b,0,none⟩) 1 1/\(L 11=false->ax W b #[.int .i64 ((P.n:Int)+(k:Int))] 3))/\(L 17=true->∃ b,g 17 = .slice (some ⟨b,0,none⟩) 1 1/\(L 18=false->ax W b #[.string (qs (P.B k)),vr] 182))/\OS w P pk (if L 21=true then g 11 else vb) (if L 24=true then g 18 else vl) vo (if L 11=true then g 11 else vb) (if L 11=true then k+1 else k) (if L 18=true then g 18 else vl) (if L 18=true then k+1 else k) (k+1) vo P.n vw vg W) (S:=fun q=>c7 vb q∨c7 vl q∨q=pk) ag ag ag (Mv.refl HX7.o (fun q h=>h.elim (fun a=>(HBSf.o.b.lt a).1) (fun h=>h.elim (fun a=>(HBSf.o.l.lt a).1) (fun e=>e▸HBSf.o.up)))) ?_ ?_ ?_ ?_ (fun gv_ w8 hm_ he_=>?_)
       ·exact fun g=>⟨fun h=>absurd h af,fun h=>absurd h af,HBSf.o.drew⟩
       ·exact fun L g W W1 h e=>⟨fun a=>let ⟨b,x,y⟩:=h.1 a;⟨b,x,fun z=>(y z).ext e⟩,fun a=>let ⟨b,x,y⟩:=h.2.1 a;⟨b,x,fun z=>(y z).ext e⟩,h.2.2.ext e⟩
       ·intro i v L g W hi h;have n10_:i≠10:=fun e=>by subst e;exact absurd (show false=true from hi) af
        have n11_:i≠11:=fun e=>by subst e;exact absurd (show false=true from hi) af
        have n17_:i≠17:=fun e=>by subst e;exact absurd (show false=true from hi) af
        have n18_:i≠18:=fun e=>by subst e;exact absurd (show false=true from hi) af
        have n21_:i≠21:=fun e=>by subst e;exact absurd (show false=true from hi) af
        have n24_:i≠24:=fun e=>by subst e;exact absurd (show false=true from hi) af
        simp only[av n10_,aw n10_,av n11_,aw n11_,av n17_,aw n17_,av n18_,aw n18_,av n21_,aw n21_,av n24_,aw n24_];exact h
       ·skip
        refine RI 3 (.pointer (some ⟨pk,0,none⟩))<|RI 3 (.pointer (some ⟨pk,0,none⟩))<|RI 3 (.pointer (some ⟨pk,0,none⟩))<|R1 2<|R1 3 ?_;refine RV (fun A_ hs_ K_ hK_=>?_) ?_;· have q64_:=hs_.val 4;have n_:=hs_.no 21 af ag;have cS_1:=hs_.e.2.2.d1;rw[if_neg (by rw[n_];decide)] at cS_1;clear n_;go_simp;exact dS hK_
        refine RI 1 (.pointer (some ⟨w.heap.size,0,none⟩))<|J2 (fun hs_=>hs_.val 6) (fun hs_=>(hs_.mv.aF HB0_7.o (fun h=>h.elim (fun a=>HBSf.o.b.aI HB0_7.o af a) (fun h=>h.elim (fun a=>absurd a (HBSf.o.l.aI HB0_7.o af)) (fun e=>aY HB0_7.o HBSf.o.tab af e)))).cell 0 rfl)<|RI 5 (.int .i64 (k:Int)) ?_;refine RV (fun A_ hs_ K_ hK_=>?_) ?_;· have q67_:=hs_.val 7;have q68_:=hs_.val 8;go_simp;try go_bits;exact dS hK_
        refine aB.cons (fun L_ g_ A_ W_ hs_=>?_) ?_
        ·have q69_:=hs_.val 9;refine bQ.aJ fun K_ hK_=>?_;have n11_:=hs_.no 11 af ag;have n18_:=hs_.no 18 af ag;have n21_:=hs_.no 21 af ag;have n24_:=hs_.no 24 af ag;have n10_:=hs_.not;have e_:=hs_.e;simp only[n11_,n18_,n21_,n24_,n10_,ak,if_false,if_true] at e_;have HN_:=aj (And.intro n11_ (And.intro n18_ (And.intro n21_ (n24_))));clear n11_ n18_ n21_ n24_ n10_;have HE_:=aj e_;have HM_:=aj hs_.mv;clear e_;go_simp;exact hK_.o _ _ (HM_.o.alloc _) (by simp only[aE,aH,av (show(10:Nat)≠11 by decide),aw (show(10:Nat)≠11 by decide),av (show(10:Nat)≠17 by decide),aw (show(10:Nat)≠17 by decide),av (show(10:Nat)≠18 by decide),aw (show(10:Nat)≠18 by decide),av (show(10:Nat)≠21 by decide),aw (show(10:Nat)≠21 by decide),av (show(10:Nat)≠24 by decide),aw (show(10:Nat)≠24 by decide),HN_.o.1,HN_.o.2.1,HN_.o.2.2.1,HN_.o.2.2.2,ak,if_false,if_true];exact⟨fun _=>⟨_,rfl,fun _=>ax.new _ _ _⟩,fun h=>let ⟨b,x,y⟩:=HE_.o.2.1 h;⟨b,x,fun z=>(y z).alloc _⟩,HE_.o.2.2.alloc _⟩)
        refine aB.cons (fun L_ g_ A_ W_ hs_=>?_) ?_
        ·have q65_:=hs_.val 5;have q70_:=hs_.aJ 10;refine bQ.aJ fun K_ hK_=>?_;have y10_:=hs_.yes 10 ag;have n18_:=hs_.no 18 af ag;have n21_:=hs_.no 21 af ag;have n24_:=hs_.no 24 af ag;have n11_:=hs_.not;have e_:=hs_.e;simp only[y10_,n18_,n21_,n24_,n11_,ak,if_false,if_true] at e_;obtain⟨b_,g_eq,hb_⟩:=e_.1 trivial;rw[g_eq] at q70_;have HG_:=aj g_eq;have HB_:=aj (hb_ trivial);clear g_eq hb_;have HN_:=aj (And.intro y10_ (And.intro n18_ (And.intro n21_ (n24_))));clear y10_ n18_ n21_ n24_ n11_;have HE_:=aj e_;have HM_:=aj hs_.mv;clear e_;refine fD (X:=w) (H:=fun _ => .int .i64 ((P.n:Int)+(k:Int))) (ad:=⟨b_,0,none⟩) (m:=1) (c:=1) (v:=vb) rfl (by go_simp) (by go_simp) tB yV rfl HM_.o.ext HE_.o.2.2.b (fun _=>af) (fun i hi=>by obtain rfl:i=0:=ae;exact cZ HB_.o rfl) (fun _ _=>rfl) (by unfold maxLen;omega) ae (fun v_ W9_ hA_=>?_);exact hK_.o v_ W9_ (HM_.o.comp hA_.mv (fun q h=>Or.inl (Or.inl h))) (by simp only[aE,aH,av (show(11:Nat)≠10 by decide),aw (show(11:Nat)≠10 by decide),av (show(11:Nat)≠17 by decide),aw (show(11:Nat)≠17 by decide),av (show(11:Nat)≠18 by decide),aw (show(11:Nat)≠18 by decide),av (show(11:Nat)≠21 by decide),aw (show(11:Nat)≠21 by decide),av (show(11:Nat)≠24 by decide),aw (show(11:Nat)≠24 by decide),HN_.o.1,HN_.o.2.1,HN_.o.2.2.1,HN_.o.2.2.2,ak,if_false,if_true];exact⟨fun _=>⟨b_,HG_.o,(fun h=>by cases h)⟩,fun h=>let ⟨b,x,y⟩:=HE_.o.2.1 h;⟨b,x,fun z=>hA_.mv.aF (y z) (HE_.o.2.2.b.aI (y z) af)⟩,HE_.o.2.2.D6 hA_ rfl⟩)
        refine RI 3 (.pointer (some ⟨pk,0,none⟩))<|R1 12<|R1 13 ?_;refine RV (fun A_ hs_ K_ hK_=>?_) ?_;· have q74_:=hs_.val 14;have n_:=hs_.no 24 af ag;have cS_2:=hs_.e.2.2.d2;rw[if_neg (by rw[n_];decide)] at cS_2;clear n_;go_simp;exact dS hK_
        refine J3 (fun hs_=>hs_.is 7 (.pointer (some ⟨w5.heap.size,0,none⟩))) (fun hs_=>(hs_.mv.aF HB2_7.o (fun h=>h.elim (fun a=>HBSf.o.b.aI HB2_7.o af a) (fun h=>h.elim (fun a=>absurd a (fun a=>(HNEBSB2.o) _ (Or.inr (Or.inr (Or.inl a))) rfl)) (fun e=>aY HB2_7.o HBSf.o.tab af e)))).cell 0 rfl) (fun hs_=>(hs_.mv.aF HB2_7.o (fun h=>h.elim (fun a=>HBSf.o.b.aI HB2_7.o af a) (fun h=>h.elim (fun a=>absurd a (fun a=>(HNEBSB2.o) _ (Or.inr (Or.inr (Or.inl a))) rfl)) (fun e=>aY HB2_7.o HBSf.o.tab af e)))).cell 1 rfl) ?_;refine aB.cons (fun L_ g_ A_ W_ hs_=>?_) ?_
        ·have q76_:=hs_.val 16;refine bQ.aJ fun K_ hK_=>?_;have n18_:=hs_.no 18 af ag;have n21_:=hs_.no 21 af ag;have n24_:=hs_.no 24 af ag;have n17_:=hs_.not;have e_:=hs_.e;simp only[n18_,n21_,n24_,n17_,ak,if_false,if_true] at e_;have HN_:=aj (And.intro n18_ (And.intro n21_ (n24_)));clear n18_ n21_ n24_ n17_;have HE_:=aj e_;have HM_:=aj hs_.mv;clear e_;go_simp;exact hK_.o _ _ (HM_.o.alloc _) (by simp only[aE,aH,av (show(17:Nat)≠10 by decide),aw (show(17:Nat)≠10 by decide),av (show(17:Nat)≠11 by decide),aw (show(17:Nat)≠11 by decide),av (show(17:Nat)≠18 by decide),aw (show(17:Nat)≠18 by decide),av (show(17:Nat)≠21 by decide),aw (show(17:Nat)≠21 by decide),av (show(17:Nat)≠24 by decide),aw (show(17:Nat)≠24 by decide),HN_.o.1,HN_.o.2.1,HN_.o.2.2,ak,if_false,if_true];exact⟨fun h=>let ⟨b,x,y⟩:=HE_.o.1 h;⟨b,x,fun z=>(y z).alloc _⟩,fun _=>⟨_,rfl,fun _=>ax.new _ _ _⟩,HE_.o.2.2.ext ((Ext.refl _).alloc _)⟩)
        refine aB.cons (fun L_ g_ A_ W_ hs_=>?_) ?_
        ·have q75_:=hs_.val 15;have q77_:=hs_.aJ 17;refine bQ.aJ fun K_ hK_=>?_;have y10_:=hs_.yes 10 ag;have y11_:=hs_.yes 11 ag;have y17_:=hs_.yes 17 ag;have n21_:=hs_.no 21 af ag;have n24_:=hs_.no 24 af ag;have n18_:=hs_.not;have e_:=hs_.e;simp only[y10_,y11_,y17_,n21_,n24_,n18_,ak,if_false,if_true] at e_;obtain⟨b_,g_eq,hb_⟩:=e_.2.1 trivial;rw[g_eq] at q77_;have HG_:=aj g_eq;have HB_:=aj (hb_ trivial);clear g_eq hb_;have HN_:=aj (And.intro y10_ (And.intro y11_ (And.intro y17_ (And.intro n21_ (n24_)))));clear y10_ y11_ y17_ n21_ n24_ n18_;have HE_:=aj e_;have HM_:=aj hs_.mv;clear e_;refine fD (X:=w) (H:=fun i=>if i=0 then .string (qs (P.B k)) else vr) (ad:=⟨b_,0,none⟩) (m:=1) (c:=1) (v:=vl) rfl (by go_simp) (by go_simp) zV CE rfl HM_.o.ext HE_.o.2.2.l (fun _=>af) (tC HB_.o) (tD rfl HVRn.o.one) (by unfold maxLen;omega) ae (fun v_ W9_ hA_=>?_);exact hK_.o v_ W9_ (HM_.o.comp hA_.mv (fun q h=>Or.inl (Or.inr (Or.inl h)))) (by simp only[aE,aH,av (show(18:Nat)≠10 by decide),aw (show(18:Nat)≠10 by decide),av (show(18:Nat)≠11 by decide),aw (show(18:Nat)≠11 by decide),av (show(18:Nat)≠17 by decide),aw (show(18:Nat)≠17 by decide),av (show(18:Nat)≠21 by decide),aw (show(18:Nat)≠21 by decide),av (show(18:Nat)≠24 by decide),aw (show(18:Nat)≠24 by decide),HN_.o.1,HN_.o.2.1,HN_.o.2.2.1,HN_.o.2.2.2.1,HN_.o.2.2.2.2,ak,if_false,if_true];exact⟨fun _=>let ⟨b,x,_⟩:=HE_.o.1 trivial;⟨b,x,(fun h=>by cases h)⟩,fun _=>⟨b_,HG_.o,(fun h=>by cases h)⟩,HE_.o.2.2.D5 hA_ (if_pos rfl) ((if_neg af).trans HVK.o.symm)⟩)
        refine R1 0<|R1 19 ?_;refine aB.cons (fun L_ g_ A_ W_ hs_=>?_) ?_
        ·have q80_:=hs_.val 20;have q71_:=hs_.aJ 11;refine bQ.aJ fun K_ hK_=>?_;have y10_:=hs_.yes 10 ag;have y11_:=hs_.yes 11 ag;have y17_:=hs_.yes 17 ag;have y18_:=hs_.yes 18 ag;have n24_:=hs_.no 24 af ag;have n21_:=hs_.not;have e_:=hs_.e;simp only[y10_,y11_,y17_,y18_,n24_,n21_,ak,if_false,if_true] at e_;obtain⟨a_,n_,cc_,es_⟩:=e_.2.2.b.cH;rw[es_] at e_ q71_;have HES:=aj es_;clear es_;have c_:=e_.2.2.d1;have f_:=e_.2.2.free 1;have HN_:=aj (And.intro y10_ (And.intro y11_ (And.intro y17_ (And.intro y18_ (n24_)))));clear y10_ y11_ y17_ y18_ n24_ n21_;have HE_:=aj e_;have HM_:=aj hs_.mv;clear e_;go_simp;exact hK_.o undef _ (HM_.o.setCell (Or.inl (Or.inr (Or.inr rfl))) _) (by simp only[aE,aH,av (show(21:Nat)≠10 by decide),aw (show(21:Nat)≠10 by decide),av (show(21:Nat)≠11 by decide),aw (show(21:Nat)≠11 by decide),av (show(21:Nat)≠17 by decide),aw (show(21:Nat)≠17 by decide),av (show(21:Nat)≠18 by decide),aw (show(21:Nat)≠18 by decide),av (show(21:Nat)≠24 by decide),aw (show(21:Nat)≠24 by decide),HN_.o.1,HN_.o.2.1,HN_.o.2.2.1,HN_.o.2.2.2.1,HN_.o.2.2.2.2,HES.o,ak,if_false,if_true];exact⟨fun _=>let ⟨b,x,_⟩:=HE_.o.1 trivial;⟨b,x,(fun h=>by cases h)⟩,fun _=>let ⟨b,x,_⟩:=HE_.o.2.1 trivial;⟨b,x,(fun h=>by cases h)⟩,HE_.o.2.2.Eu _⟩)
        refine R1 1<|R1 22 ?_;refine aB.cons (fun L_ g_ A_ W_ hs_=>?_) ?_
        ·have q82_:=hs_.val 23;have q78_:=hs_.aJ 18;refine bQ.aJ fun K_ hK_=>?_;have y10_:=hs_.yes 10 ag;have y11_:=hs_.yes 11 ag;have y17_:=hs_.yes 17 ag;have y18_:=hs_.yes 18 ag;have y21_:=hs_.yes 21 ag;have n24_:=hs_.not;have e_:=hs_.e;simp only[y10_,y11_,y17_,y18_,y21_,n24_,ak,if_false,if_true] at e_;obtain⟨a_,n_,cc_,es_⟩:=e_.2.2.l.cH;rw[es_] at e_ q78_;have HES:=aj es_;clear es_;have c_:=e_.2.2.d2;have f_:=e_.2.2.free 2;have HN_:=aj (And.intro y10_ (And.intro y11_ (And.intro y17_ (And.intro y18_ (y21_)))));clear y10_ y11_ y17_ y18_ y21_ n24_;have HE_:=aj e_;have HM_:=aj hs_.mv;clear e_;go_simp;exact hK_.o undef _ (HM_.o.setCell (Or.inl (Or.inr (Or.inr rfl))) _) (by simp only[aE,aH,av (show(24:Nat)≠10 by decide),aw (show(24:Nat)≠10 by decide),av (show(24:Nat)≠11 by decide),aw (show(24:Nat)≠11 by decide),av (show(24:Nat)≠17 by decide),aw (show(24:Nat)≠17 by decide),av (show(24:Nat)≠18 by decide),aw (show(24:Nat)≠18 by decide),av (show(24:Nat)≠21 by decide),aw (show(24:Nat)≠21 by decide),HN_.o.1,HN_.o.2.1,HN_.o.2.2.1,HN_.o.2.2.2.1,HN_.o.2.2.2.2,HES.o,ak,if_false,if_true];exact⟨fun _=>let ⟨b,x,_⟩:=HE_.o.1 trivial;⟨b,x,(fun h=>by cases h)⟩,fun _=>let ⟨b,x,_⟩:=HE_.o.2.1 trivial;⟨b,x,(fun h=>by cases h)⟩,HE_.o.2.2.Et _⟩)
        exact aB.nil
       simp only[fT,Ke.value,bD,Act.put,List.setIfInBounds_toArray,List.set_cons_zero,List.set_cons_succ,Nat.reduceAdd];have HX8:Hid (Ext w w8):=aj hm_.ext;have HB0_8:=aj (hm_.aF HB0_7.o (fun h=>h.elim (fun a=>HBSf.o.b.aI HB0_7.o af a) (fun h=>h.elim (fun a=>absurd a (HBSf.o.l.aI HB0_7.o af)) (fun e=>aY HB0_7.o HBSf.o.tab af e))));have HB1_8:=aj (hm_.aF HB1_7.o (fun h=>h.elim (fun a=>HBSf.o.b.aI HB1_7.o af a) (fun h=>h.elim (fun a=>absurd a (HBSf.o.l.aI HB1_7.o af)) (fun e=>aY HB1_7.o HBSf.o.tab af e))));have HB2_8:=aj (hm_.aF HB2_7.o (fun h=>h.elim (fun a=>HBSf.o.b.aI HB2_7.o af a) (fun h=>h.elim (fun a=>absurd a (fun a=>(HNEBSB2.o) _ (Or.inr (Or.inr (Or.inl a))) rfl)) (fun e=>aY HB2_7.o HBSf.o.tab af e))));have h_:=he_.2.2;simp only[if_true] at h_;have HBS_8:=aj h_;clear h_;clear hm_ he_;go_wp2_with fail;go_roundw
       case rel=>exact⟨k+1,by go_num,ae,aj ⟨HX8.o,HB0_8.o,⟨_,_,_,HBS_8.o⟩⟩⟩
       case measure=>simp[intOf];omega
    ·have hk2:k=P.m:=ae;have hge:¬ (k:Int)<((P.m:Nat):Int):=ae;go_wp2;go_ret;exact⟨pk,_,rfl,HX4.o,(OS.ta (hk2▸HBS_4.o))⟩
end Go.Proofs.YtmahadmefplbnaaGreatDoor
