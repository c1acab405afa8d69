/- Part 30. -/
import Derived.Test.YtmahadmefplbnaaGreatDoorQFVB
import Derived.Test.YtmahadmefplbnaaGreatDoorQFV29
set_option maxRecDepth 100000
set_option maxHeartbeats 2000000
open Go.Proofs.Tryz
set_option linter.unusedSimpArgs false
set_option linter.unusedVariables false
namespace Go.Proofs.YtmahadmefplbnaaGreatDoor
open Go Go.RowKit
def EY(f:Nat->Rat)(i:Nat):Bool:=decide (f i≠0)
def fi(is:Nat->Bool):Nat->Int
 | 0=>-1
 | k+1=>if 0<=fi is k then fi is k else if is k=true then(k:Int) else -1
theorem l6{is:Nat->Bool}:∀ {n:Nat},(∀ i,i<n->is i=false)->fi is n=-1
 | 0,_=>rfl
 | n+1,h=>by rw[fi,l6 (fun i hi=>h i ae),if_neg af,if_neg (by rw[h n ae];decide)]
theorem uX{is:Nat->Bool}{k:Nat}:∀ {n:Nat},k<n->(∀ i,i<k->is i=false)->is k=true->fi is n=(k:Int)
 | 0,h,_,_=>ae
 | n+1,h,h1,h2=>by
  by_cases e:k=n
  ·subst e;rw[fi,l6 h1,if_neg af,if_pos h2]
  ·have:=uX (n:=n) ae h1 h2;rw[fi,this,if_pos ae]
theorem ki(is:Nat->Bool):∀ n:Nat,(fi is n=-1/\∀ i,i<n->is i=false)∨∃ k:Nat,k<n/\fi is n=(k:Int)/\is k=true/\∀ i,i<k->is i=false
 | 0=>Or.inl ⟨rfl,fun i hi=>ae⟩
 | n+1=>by
  rcases ki is n with⟨h1,h2⟩|⟨k,h1,h2,h3,h4⟩
  ·by_cases h:is n=true
   ·exact Or.inr ⟨n,ae,by rw[fi,h1,if_neg af,if_pos h],h,h2⟩
   ·exact Or.inl ⟨by rw[fi,h1,if_neg af,if_neg h],fun i hi=>by
     by_cases e:i=n
     ·rw[e];simpa using h
     ·exact h2 i ae⟩
  ·exact Or.inr ⟨k,ae,by rw[fi,h2,if_pos ae],h3,h4⟩
theorem wV{is:Nat->Bool}{k:Nat}(h:∀ i,i<k->is i=false)(h2:is k=false)(i:Nat)(hi:i<k+1):is i=false:=by
 by_cases e:i=k
 ·rw[e];exact h2
 ·exact h i ae
theorem EF(xb at_ fn fcap:Nat)(cb:ByteArray)(fa:Addr)(x:Rat)(r:Bool)(w:World)(hB:aq w xb #[.int .i64 (at_:Int)] 3)(hc:w.cell? (fa.add at_)=some (.string (qs x)))(hlt:at_<fn)(hr:decide (x≠0)=r):Calls prog 197 #[.agg #[.string cb,.slice (some fa) fn fcap],.pointer (some ⟨xb,0,none⟩)] w (aD w (.bool r)):=by
 have HBx:=ai hB;have HC:=ai hc;have HR:=ai hr;clear hB hc hr;have hlt2:(at_:Int)<(fn:Int):=ae;go_enter func197,ntmps197;by_cases h:x≠0
 ·obtain rfl:r=true:=by rw[← HR.o];simpa using h
  have h1:=aV h;clear h;go_upto_region 1 with fail
  refine aw (fun W=>Ext w W/\aq W (xb) (#[.int .i64 (at_:Int)]) 3/\aq W (w.heap.size) (#[.string cb,.slice (some fa) fn fcap]) 182) ⟨((Ext.refl w).alloc _),(HBx.o.alloc _),(aq.nw (#[.string cb,.slice (some fa) fn fcap]) 182)⟩ ?_;rintro w1 ⟨e1,bBx_1,bB0_1⟩;have HX1:=ai e1;have HBx_1:=ai bBx_1;have HB0_1:=ai bB0_1;have HGEB0:Hid (w.heap.size<=w.heap.size):=ai (Nat.le_refl _);clear e1 bBx_1 bB0_1;have c0_1:=HB0_1.o.cell 1 rfl;have cx_0:=HBx_1.o.cell (0) rfl;have cf_at_:=ax HX1.o (HC.o);go_wp2;go_ret;exact⟨rfl,HX1.o⟩
 ·obtain rfl:r=false:=by rw[← HR.o];simpa using h
  have h1:=cC (Classical.not_not.1 h);clear h;go_upto_region 1 with fail
  refine aw (fun W=>Ext w W/\aq W (xb) (#[.int .i64 (at_:Int)]) 3/\aq W (w.heap.size) (#[.string cb,.slice (some fa) fn fcap]) 182) ⟨((Ext.refl w).alloc _),(HBx.o.alloc _),(aq.nw (#[.string cb,.slice (some fa) fn fcap]) 182)⟩ ?_;rintro w1 ⟨e1,bBx_1,bB0_1⟩;have HX1:=ai e1;have HBx_1:=ai bBx_1;have HB0_1:=ai bB0_1;have HGEB0:Hid (w.heap.size<=w.heap.size):=ai (Nat.le_refl _);clear e1 bBx_1 bB0_1;have c0_1:=HB0_1.o.cell 1 rfl;have cx_0:=HBx_1.o.cell (0) rfl;have cf_at_:=ax HX1.o (HC.o);go_wp2;go_ret;exact⟨rfl,HX1.o⟩
theorem EC(xb at_ fn fcap:Nat)(cb:ByteArray)(fa:Addr)(x:Rat)(r:Bool)(w:World)(hB:aq w xb #[.int .i64 (at_:Int)] 3)(hc:w.cell? (fa.add at_)=some (.string (qs x)))(hlt:at_<fn)(hr:decide (x≠0)=r):Calls prog 199 #[.agg #[.string cb,.slice (some fa) fn fcap],.pointer (some ⟨xb,0,none⟩)] w (aD w (.bool r)):=by
 have HBx:=ai hB;have HC:=ai hc;have HR:=ai hr;clear hB hc hr;have hlt2:(at_:Int)<(fn:Int):=ae;go_enter func199,ntmps199;by_cases h:x≠0
 ·obtain rfl:r=true:=by rw[← HR.o];simpa using h
  have h1:=aV h;clear h;go_upto_region 1 with fail
  refine aw (fun W=>Ext w W/\aq W (xb) (#[.int .i64 (at_:Int)]) 3/\aq W (w.heap.size) (#[.string cb,.slice (some fa) fn fcap]) 182) ⟨((Ext.refl w).alloc _),(HBx.o.alloc _),(aq.nw (#[.string cb,.slice (some fa) fn fcap]) 182)⟩ ?_;rintro w1 ⟨e1,bBx_1,bB0_1⟩;have HX1:=ai e1;have HBx_1:=ai bBx_1;have HB0_1:=ai bB0_1;have HGEB0:Hid (w.heap.size<=w.heap.size):=ai (Nat.le_refl _);clear e1 bBx_1 bB0_1;have c0_1:=HB0_1.o.cell 1 rfl;have cx_0:=HBx_1.o.cell (0) rfl;have cf_at_:=ax HX1.o (HC.o);go_wp2;go_ret;exact⟨rfl,HX1.o⟩
 ·obtain rfl:r=false:=by rw[← HR.o];simpa using h
  have h1:=cC (Classical.not_not.1 h);clear h;go_upto_region 1 with fail
  refine aw (fun W=>Ext w W/\aq W (xb) (#[.int .i64 (at_:Int)]) 3/\aq W (w.heap.size) (#[.string cb,.slice (some fa) fn fcap]) 182) ⟨((Ext.refl w).alloc _),(HBx.o.alloc _),(aq.nw (#[.string cb,.slice (some fa) fn fcap]) 182)⟩ ?_;rintro w1 ⟨e1,bBx_1,bB0_1⟩;have HX1:=ai e1;have HBx_1:=ai bBx_1;have HB0_1:=ai bB0_1;have HGEB0:Hid (w.heap.size<=w.heap.size):=ai (Nat.le_refl _);clear e1 bBx_1 bB0_1;have c0_1:=HB0_1.o.cell 1 rfl;have cx_0:=HBx_1.o.cell (0) rfl;have cf_at_:=ax HX1.o (HC.o);go_wp2;go_ret;exact⟨rfl,HX1.o⟩
theorem DT(ao_:Option Addr)(n cap fn:Nat)(cp:Array Value)(a b:Nat->Value)(is:Nat->Bool)(w:World)(hl:∀ i,i<n->∃ la o,ao_=some ⟨la,o,none⟩/\w.cell? ⟨la,o+i*2,none⟩=some (a i)/\w.cell? ⟨la,o+i*2+1,none⟩=some (b i))(hcl:∀ W,Ext w W->∀ k:Nat,k<n->Calls prog fn (#[.agg #[a k,b k]] ++ cp) W (aD W (.bool (is k))))(hn:n<=1000000)(hcf:∀ a_ W,(callFunc fn a_).run prog W = .ok (.enter fn a_) W):Calls prog 196 #[.slice ao_ n cap,.func (.func fn) #[] cp] w (aD w (.int .i64 (fi is n))):=by
 have HL:=ai hl;have HCL:=ai hcl;clear hl hcl;go_enter func196,ntmps196;go_wp2_with fail;go_loopw [8] (fun x0_ wx=>∃ k:Nat,x0_ = .int .i64 k/\k<=n/\Hid (∀ i,i<k->is i=false)/\Hid (Ext w wx)) (fun x0_ _=>n-(intOf x0_).toNat)
 case atStart=>exact⟨0,rfl,Nat.zero_le _,ai (fun i hi=>absurd hi (Nat.not_lt_zero i)),ai (Ext.refl w)⟩
 case round =>
  rename World=>w1
  obtain⟨k,rfl,hkk,HGk,HH⟩:=hrel;have HX1:=ai HH.o;clear HH;by_cases hlt:k<n
  ·have hlt2:(k:Int)<((n:Nat):Int):=ae;obtain⟨la,o_,rfl,zl_,zm_⟩:=HL.o k hlt;have HCl:=ai zl_;have HCm:=ai zm_;clear zl_ zm_;by_cases hi:is k=true
   ·have HIS:=ai hi;clear hi;have cl_o____k___2:=ax HX1.o (HCl.o);have cl_o____k___2___1:=ax HX1.o (HCm.o);go_wp2_with fail;refine((HIS.o▸HCL.o _ HX1.o k hlt)).mono ?_;rintro e w2 ⟨rfl,e2⟩;have HX2:=ai (HX1.o.trans e2);clear e2 cl_o____k___2 cl_o____k___2___1;go_wp2;go_ret;exact⟨by rw[uX hlt HGk.o HIS.o];rfl,HX2.o⟩
   ·have HIS:Hid (is k=false):=ai (by simpa using hi);clear hi;have cl_o____k___2:=ax HX1.o (HCl.o);have cl_o____k___2___1:=ax HX1.o (HCm.o);go_wp2_with fail;refine((HIS.o▸HCL.o _ HX1.o k hlt)).mono ?_;rintro e w2 ⟨rfl,e2⟩;have HX2:=ai (HX1.o.trans e2);clear e2 cl_o____k___2 cl_o____k___2___1;go_wp2_with fail;go_roundw
    case rel=>exact⟨k+1,by go_num,ae,ai (wV HGk.o HIS.o),ai HX2.o⟩
    case measure=>simp[intOf];omega
  ·have hk2:k=n:=ae;have hge:¬ (k:Int)<((n:Nat):Int):=ae;go_wp2;go_ret;exact⟨by rw[l6 (by rw[← hk2];exact HGk.o)];rfl,HX1.o⟩
def F1(X:World)(P:LP)(p:Nat)(e:Ending)(w':World):Prop:=e = .returned (.tuple #[])/\Ext X w'/\∃ M',TA X P (P.rel P.first P.n) p M' w'
def si(T:aN)(k i:Nat):Bool:=EY (fun i=>T.f i k) i
def F0(P:LP)(T:aN)(k:Nat)(rr:Int):Prop:=(rr=-1/\P.rs T k P.m=-1)∨∃ r:Nat,rr=(r:Int)/\r<P.m/\T.f r k≠0/\P.rs T k r=-1
section
variable {P:LP} {T:aN} {k r d:Nat}
theorem jW:∀ {n:Nat},(∀ i,i<n->T.f i k≠0->¬ P.n<=T.b i)->P.rs T k n=-1
 | 0,_=>rfl
 | n+1,h=>by rw[LP.rs,jW (fun i hi=>h i ae),if_neg af,if_neg (fun h'=>h n ae h'.1 h'.2)]
theorem zy{n:Nat}(h:P.rs T k n=-1):∀ i,i<n->T.f i k≠0->¬ P.n<=T.b i:=fun i hi hf hb=>by
 rcases vY P T k n with⟨_,h2⟩|⟨r,_,h2,_⟩
 ·exact hf (h2 i hi hb)
 ·omega
theorem Ex(hr:r<P.m)(hf:T.f r k≠0)(hb:P.n<=T.b r)(hs:P.rs T k r=-1):P.rs T k P.m=(r:Int):=by
 have h1:P.rs T k (r+1)=(r:Int):=by rw[LP.rs,hs,if_neg af,if_pos ⟨hf,hb⟩]
 have h2:∀ d,P.rs T k (r+1+d)=(r:Int):=fun d=>by
  induction d with
  | zero=>exact h1
  | succ d ih=>rw[← Nat.add_assoc,LP.rs,ih,if_pos ae]
 have:=h2 (P.m-(r+1));rwa[show r+1+(P.m-(r+1))=P.m by omega] at this
theorem ud(P:LP)(T:aN)(k:Nat):F0 P T k (fi (si T k) P.m):=by
 rcases ki (si T k) P.m with⟨h1,h2⟩|⟨r,h1,h2,h3,h4⟩
 ·exact Or.inl ⟨h1,jW (fun i hi hf=>absurd hf (by simpa[si,EY] using h2 i hi))⟩
 ·exact Or.inr ⟨r,h2,h1,by simpa[si,EY] using h3,jW (fun i hi hf=>absurd hf (by simpa[si,EY] using h4 i hi))⟩
theorem Cx(T:aN)(k r m:Nat):fi (fun i=>si T k (r+1+i)) (m-(r+1))=-1∨∃ d:Nat,fi (fun i=>si T k (r+1+i)) (m-(r+1))=(d:Int)/\(d<m-(r+1)/\T.f (r+1+d) k≠0/\∀ i,i<d->T.f (r+1+i) k=0):=by
 rcases ki (fun i=>si T k (r+1+i)) (m-(r+1)) with⟨h1,h2⟩|⟨d,h1,h2,h3,h4⟩
 ·exact Or.inl h1
 ·exact Or.inr ⟨d,h2,h1,by simpa[si,EY] using h3,fun i hi=>by simpa[si,EY] using h4 i hi⟩
theorem Ey(hr:r<P.m)(hf:T.f r k≠0)(hs:P.rs T k r=-1)(hb:¬ P.n<=T.b r)(hx:fi (fun i=>si T k (r+1+i)) (P.m-(r+1))=-1):P.rs T k P.m=-1:=by
 refine jW (fun i hi hfi=>?_);rcases ki (fun i=>si T k (r+1+i)) (P.m-(r+1)) with⟨_,h2⟩|⟨d,_,h2,_⟩
 ·rcases Nat.lt_trichotomy i r with h|h|h
  ·exact zy hs i h hfi
  ·rw[h];exact hb
  ·have:=h2 (i-(r+1)) ae;rw[show r+1+(i-(r+1))=i by omega] at this;exact absurd hfi (by simpa[si,EY] using this)
 ·omega
theorem xK(hr:r<P.m)(hf:T.f r k≠0)(hs:P.rs T k r=-1)(hb:¬ P.n<=T.b r)(hd:d<P.m-(r+1)/\T.f (r+1+d) k≠0/\∀ i,i<d->T.f (r+1+i) k=0):F0 P T k ((r:Int)+(1+(d:Int))) :=
 Or.inr ⟨r+1+d,ae,ae,hd.2.1,jW (fun i hi hfi=>by
  rcases Nat.lt_trichotomy i r with h|h|h
  ·exact zy hs i h hfi
  ·rw[h];exact hb
  ·have:=hd.2.2 (i-(r+1)) ae;rw[show r+1+(i-(r+1))=i by omega] at this;exact absurd this hfi)⟩
theorem oS(h:P.rs T k P.m=-1):P.rU T k=T:=by rw[LP.rU,if_pos ae]
theorem zM(h:P.rs T k P.m=(r:Int)):P.rU T k=T.aF r k:=by rw[LP.rU,if_neg ae,h,Int.toNat_natCast]
theorem yU{n:Int}(h0:0<=n)(h1:n<=1000000000):wrap64 n=n:=by unfold wrap64;omega
theorem GD{m:Nat}(h:d<m-(r+1)):r+1+d<m:=ae
theorem F9{m:Nat}(h:r+1+d<m)(hm:m<=1000):wrap64 (1+(d:Int))=1+(d:Int):=yU ae ae
theorem F8{m:Nat}(h:r+1+d<m)(hm:m<=1000):wrap64 ((r:Int)+(1+(d:Int)))=(r:Int)+(1+(d:Int)):=yU ae ae
theorem zK{m:Nat}(h:r+1+d<m):m-(intOf (.int .i64 ((r:Int)+(1+(d:Int))))).toNat<m-(intOf (.int .i64 (r:Int))).toNat:=by simp only[intOf];omega
theorem xO:n9 P P.first 0:=⟨P.pe,fun j hj _=>rfl,fun j hj=>ae⟩
end
theorem rL{M:TM}{P:LP}{r:Nat}(hr:r<P.m):∃ ao,(∀ W,(Instr.slice 183 (M.vl P) (some (.int .i64 ((r:Int)+1))) none none).run prog W = .ok (.slice ao (P.m-(r+1)) (M.lc-(r+1))) W)/\∀ i,i<P.m-(r+1)->M.lc ≥ P.m->ao=some ⟨M.lb,(r+1)*2,none⟩:=by
 refine⟨if M.lc=r+1 then oa P.m M.lb M.lx else(oa P.m M.lb M.lx).map (·.add ((r+1)*2)),fun W=>?_,fun i hi hc=>?_⟩
 ·rw[TM.vl,run_slice_l W 183 _ _ _ ag .i64 ((r:Int)+1) ae ae];have hs:(sizeOf (prog.elem 183)).run prog W = .ok 2 W:=ag;have e:((r:Int)+1).toNat=r+1:=ae;rw[hs,e];simp only[Result.andThen,sliced]
 ·rw[if_neg ae,gq ae];simp[Addr.add]
section
variable {P:LP} {T:aN} {p k r xb:Nat} {M:TM} {w X:World} {ao:Option Addr}
theorem y6{vb vl vo vw:Value}{vf:Nat->Value}(h:TR P T w p vb vl vo vw vf)(hk:k<P.n){i:Nat}(hi:i<P.m):∃ fa fn fcap,vf i = .slice (some fa) fn fcap/\k<fn/\w.cell? (fa.add k)=some (.string (qs (T.f i k))):=by
 obtain⟨fo,fcap,e,_,_,hh⟩:=h.f i hi;obtain⟨fa,rfl,z⟩:=hh k hk;exact⟨fa,_,fcap,e,hk,z⟩
theorem EE {vb vl vo vw:Value} {vf:Nat->Value} {W:World} {i:Nat} (h:TR P T w p vb vl vo vw vf) (hk:k<P.n) (hi:i<P.m) (e:Ext w W) (hB:aq w xb #[.int .i64 (k:Int)] 3) :
    Calls prog 197 #[.agg #[.string (qs (T.c i)),vf i],.pointer (some ⟨xb,0,none⟩)] W (aD W (.bool (si T k i))):=by
 obtain⟨fa,fn,fcap,ev,h1,h2⟩:=y6 h hk hi;rw[ev];exact EF xb k fn fcap _ fa _ _ W (hB.ext e) (ax e h2) h1 rfl
theorem EB {vb vl vo vw:Value} {vf:Nat->Value} {W:World} {i:Nat} (h:TR P T w p vb vl vo vw vf) (hk:k<P.n) (hi:i<P.m) (e:Ext w W) (hB:aq w xb #[.int .i64 (k:Int)] 3) :
    Calls prog 199 #[.agg #[.string (qs (T.c i)),vf i],.pointer (some ⟨xb,0,none⟩)] W (aD W (.bool (si T k i))):=by
 obtain⟨fa,fn,fcap,ev,h1,h2⟩:=y6 h hk hi;rw[ev];exact EC xb k fn fcap _ fa _ _ W (hB.ext e) (ax e h2) h1 rfl
theorem Fm (h:TA X P T p M w) (hB:aq w xb #[.int .i64 (k:Int)] 3) (hk:k<P.n) (hm:P.m<=1000) :
    Calls prog 196 #[M.vl P,.func (.func 197) #[] #[.pointer (some ⟨xb,0,none⟩)]] w (aD w (.int .i64 (fi (si T k) P.m))):=by
 obtain⟨ao,cap,e,_,_,hh⟩:=h.tr.l;rw[e];exact DT ao P.m cap _ _ (fun i => .string (qs (T.c i))) (M.vf P) _ w (fun i hi=>let ⟨lb,e1,e2,e3⟩:=hh i hi;⟨lb,0,e1,by rw[Nat.zero_add];exact e2,by rw[Nat.zero_add];exact e3⟩) (fun W e i hi=>by rw[Bo];exact EE h.tr hk hi e hB) ae (fun _ _=>ag)
theorem AA (h:TA X P T p M w) (hB:aq w xb #[.int .i64 (k:Int)] 3) (hao:∀ i,i<P.m-(r+1)->M.lc ≥ P.m->ao=some ⟨M.lb,(r+1)*2,none⟩) (hr:r<P.m) (hk:k<P.n) (hm:P.m<=1000) :
    Calls prog 196 #[.slice ao (P.m-(r+1)) (M.lc-(r+1)),.func (.func 199) #[] #[.pointer (some ⟨xb,0,none⟩)]] w (aD w (.int .i64 (fi (fun i=>si T k (r+1+i)) (P.m-(r+1))))):=by
 obtain⟨CL,b,hl⟩:=h.mem.lin ae;refine DT ao (P.m-(r+1)) (M.lc-(r+1)) _ _ (fun i => .string (qs (T.c (r+1+i)))) (fun i=>M.vf P (r+1+i)) _ w (fun i hi=>⟨M.lb,(r+1)*2,hao i hi h.mem.caps.l.1,?_,?_⟩) (fun W e i hi=>by rw[Bo];exact EB h.tr hk ae e hB) ae (fun _ _=>ag)
 ·rw[← Nat.add_mul];exact b.cell _ (hl _ ae).1
 ·rw[← Nat.add_mul];exact b.cell _ (hl _ ae).2
end
theorem Du{P:LP}{p:Nat}{M:TM}{w X:World}(h:TA X P P.first p M w)(hn0:0<P.n)(hn:P.n<=1000):Calls prog 195 #[M.vo P] w fun e w'=>∃ (cc k:Nat) (C:Array Value),e = .returned (.slice (some ⟨k,0,none⟩) P.n cc)/\Ext w w'/\w.heap.size<=k/\aq w' k C 3/\∀ j,j<P.n->C[j]?=some (.int .i64 (j:Int)):=by
 obtain⟨CO,hb,hc⟩:=h.mem.oth hn0;rw[TM.vo,gq hn0];refine(slices_Clone_int M.ob 0 P.n M.oc ((List.range P.n).map (fun j=>((j:Nat):Int))) w (by simp) ae (fun j hj=>?_)).mono ?_
 ·have hj2:j<P.n:=by simpa using hj
  rw[Nat.zero_add,hb.cell j (hc j hj2)];simp[LP.first,List.getD,hj2]
 ·rintro e w' ⟨v,rfl,ho,hv,hB⟩;rcases ho.2 with⟨rfl,_⟩|⟨g,cap,cur,rfl,hg,hh,h1,h2,h3,h4⟩
  ·exact absurd rfl hv
  ·refine⟨cap,g,cur,rfl,hB,hg,⟨hh⟩,fun j hj=>?_⟩;have e1:(cur.toList.take (P.n*1))[j]?=some (.int .i64 (j:Int)):=by rw[h4];simp[hj]
   rw[List.getElem?_take,if_pos ae] at e1;simpa using e1
theorem rT(P:LP)(p:Nat)(M:TM)(q:Nat)(X w:World)(g:Gd X)(hX:Ext X w)(hT:TA X P P.first p M w)(SZ:D6 P q)(hn:P.n<=1000)(hm:P.m<=1000)(hq1:1<=q)(hq2:q<=400)(hn0:0<P.n):Calls prog 122 #[.pointer (some ⟨p,0,none⟩)] w (F1 X P p):=by
 have HG:=ai g;have HBT:=ai hT;clear g hT;have HX0:Hid (Mv X w (fun k=>X.heap.size<=k) w):=ai (Mv.refl hX (fun k h=>h));clear hX;go_enter func122,ntmps122;have cT_3:=HBT.o.c3;go_wp2_with fail;refine(Du HBT.o hn0 hn).mono ?_;rintro e w1 ⟨cc,kc,CC,rfl,e1,g_,b_,c_⟩;have HX1:=ai (HX0.o.trans e1);have HBT_1:=ai (HBT.o.ext e1);clear e1 cT_3;have HBc_1:=ai b_;have HCC:=ai c_;have HGEBc:Hid (w.heap.size<=kc):=ai g_;have HNEC:Hid (∀ k,M.S p P.m k->k≠kc):=ai (HBT.o.ne g_);clear b_ c_ g_;go_wp2_with fail;go_loopw [12] (fun x0_ wx=>∃ k:Nat,x0_ = .int .i64 k/\k<=P.n/\Hid (Mv X w (fun k=>X.heap.size<=k) wx/\aq wx (kc) (CC) 3/\(∃ M1,TA X P (P.rel P.first k) p M1 wx/\∀ q,M1.S p P.m q->q≠kc))) (fun x0_ _=>P.n-(intOf x0_).toNat)
 case atStart=>exact⟨0,rfl,Nat.zero_le _,ai ⟨HX1.o,HBc_1.o,⟨M,HBT_1.o,HNEC.o⟩⟩⟩
 case round =>
  rename World=>w2
  obtain⟨k,rfl,hkk,HH⟩:=hrel;have HX2:=ai HH.o.1;have HBc_2:=ai HH.o.2.1;obtain⟨M1,a1_,a2_⟩:=HH.o.2.2;obtain⟨T1,eT⟩:∃ T1,P.rel P.first k=T1:=⟨_,rfl⟩
  rw[eT] at a1_;have HT1:=ai eT;clear eT;have HBT_2:=ai a1_;have HNEC2:=ai a2_;clear a1_ a2_;have HRI:Hid (n9 P T1 k):=ai (HT1.o▸n9.all xO k hkk);have HTQ:=ai (SZ T1 HRI.o.inv);clear HH;by_cases hlt:k<P.n
  ·have hlt2:(k:Int)<((P.n:Nat):Int):=ae;have HOK:Hid (T1.o k=k):=ai (HRI.o.rest k hlt (Nat.le_refl _));have hkn:¬ P.n<=k:=ae;have HKN:=ai hkn;have cc_k:=HBc_2.o.cell (k) (HCC.o k hlt);go_upto_region 3 with fail
   have HNEBTB0:Hid (∀ q_,M1.S p P.m q_->q_≠w2.heap.size):=ai (HBT_2.o.ne ah);refine aw (fun W=>Mv X w (fun k=>X.heap.size<=k) W/\TA X P T1 p M1 W/\aq W (kc) (CC) 3/\aq W (w2.heap.size) (#[.int .i64 (k:Int)]) 3) ⟨(HX2.o.alloc _),(HBT_2.o.alloc _),(HBc_2.o.alloc _),(aq.nw (#[.int .i64 (k:Int)]) 3)⟩ ?_;rintro w3 ⟨e3,bBT_3,bBc_3,bB0_3⟩;have HX3:=ai e3;have HBT_3:=ai bBT_3;have HBc_3:=ai bBc_3;have HB0_3:=ai bB0_3;have HGEB0:Hid (w.heap.size<=w2.heap.size):=ai (HX2.o.size);clear e3 bBT_3 bBc_3 bB0_3 cc_k;have cT_2:=HBT_3.o.c2;go_wp2_with fail;refine cto (Fm (HBT_3.o) (HB0_3.o) hlt hm) fun w4 e4=>?_
   have HX4:=ai (HX3.o.trans e4);have HBT_4:=ai (HBT_3.o.ext e4);have HBc_4:=ai (HBc_3.o.ext e4);have HB0_4:=ai (HB0_3.o.ext e4);clear e4 cT_2;go_wp2_with fail;go_loopw [4] (fun x0_ wx=>∃ rr:Int,x0_ = .int .i64 rr/\Hid (F0 P T1 k rr)/\Hid (Mv X w (fun k=>X.heap.size<=k) wx/\aq wx (w2.heap.size) (#[.int .i64 (k:Int)]) 3/\aq wx (kc) (CC) 3/\TA X P T1 p M1 wx)) (fun x0_ _=>P.m-(intOf x0_).toNat)
   case atStart=>exact⟨_,rfl,ai (ud P T1 k),ai ⟨HX4.o,HB0_4.o,HBc_4.o,HBT_4.o⟩⟩
   case round =>
    rename World=>w5
    obtain⟨rr,rfl,HRR,HH⟩:=hrel;have HX5:=ai HH.o.1;have HB0_5:=ai HH.o.2.1;have HBc_5:=ai HH.o.2.2.1;have HBT_5:=ai HH.o.2.2.2;clear HH;rcases HRR.o with⟨rfl,hs⟩|⟨r,rfl,hr,hf,hs⟩
    ·have HRS:=ai hs;clear hs;go_wp2_with fail;go_roundw
     case rel=>exact⟨k+1,by go_num,ae,ai ⟨HX5.o,HBc_5.o,⟨M1,by rw[LP.rel,HT1.o,oS HRS.o];exact HBT_5.o,HNEC2.o⟩⟩⟩
     case measure=>simp[intOf];omega
    ·have HR:=ai hr;have HFR:=ai hf;have HRS:=ai hs;clear hr hf hs;have hr0:(0:Int)<=(r:Int):=ae;obtain⟨bo,bc,eb_,_,_,hb_⟩:=HBT_5.o.tr.b;obtain⟨ba,rfl,zb_⟩:=hb_ r HR.o;have HEB:=ai eb_;have HCb:=ai zb_;clear eb_ zb_ hb_;have hr3:(r:Int)<(P.m:Int):=by have:=HR.o;omega
     by_cases h1:P.n<=T1.b r
     ·have h1p:=ai h1;clear h1;have HPIV:Hid (P.rs T1 k P.m=(r:Int)):=ai (Ex HR.o HFR.o h1p.out HRS.o);have cT_1:=(HEB.o▸HBT_5.o.c1)
      have cb_r:=HCb.o;go_wp2_with fail;refine(pV (HBT_5.o) (T1.b r) true (by have:=h1p.out;simp;omega)).mono ?_;rintro e _ ⟨rfl,rfl⟩;clear cT_1 cb_r;go_wp2_with fail;refine(pV (HBT_5.o) k false (by have:=HKN.o;simp;omega)).mono ?_;rintro e _ ⟨rfl,rfl⟩;have c0_0:=HB0_5.o.cell 0 rfl;go_wp2_with fail;refine(qu HG.o HX5.o.ext HBT_5.o HR.o hlt HFR.o hn hm hq1 hq2 HTQ.o).mono ?_;rintro e w6 ⟨rfl,m_,kz,g_,t_⟩;have HX6:Hid (Mv X w (fun k=>X.heap.size<=k) w6):=ai (HX5.o.comp m_ (fun k hk=>Or.inl (HBT_5.o.up k hk)));have HBc_6:Hid (aq w6 (kc) (CC) 3):=ai (m_.az HBc_5.o (fun hk=>HNEC2.o _ hk rfl));have HNPBc:Hid (∀ k,(M1.ng r kz P.n).S p P.m k->k≠kc):=ai (TM.nc HNEC2.o HBc_5.o.lt g_);have HB0_6:Hid (aq w6 (w2.heap.size) (#[.int .i64 (k:Int)]) 3):=ai (m_.az HB0_5.o (fun hk=>HNEBTB0.o _ hk rfl));have HNPB0:Hid (∀ k,(M1.ng r kz P.n).S p P.m k->k≠w2.heap.size):=ai (TM.nc HNEBTB0.o HB0_5.o.lt g_);have HBT_6:=ai t_;clear m_ g_ t_ c0_0;go_wp2_with fail;go_roundw
      case rel=>exact⟨k+1,by go_num,ae,ai ⟨HX6.o,HBc_6.o,⟨(M1.ng r kz P.n),by rw[LP.rel,HT1.o,zM HPIV.o];exact HBT_6.o,HNPBc.o⟩⟩⟩
      case measure=>simp[intOf];omega
     ·have h1p:=ai h1;clear h1;have cT_1:=(HEB.o▸HBT_5.o.c1)
      have cb_r:=HCb.o;go_wp2_with fail;refine(pV (HBT_5.o) (T1.b r) false (by have:=h1p.out;simp;omega)).mono ?_;rintro e _ ⟨rfl,rfl⟩;clear cT_1 cb_r;go_upto_region 5 with fail
      obtain⟨ao,hsl,hao⟩:=rL (M:=M1) (P:=P) (r:=r) HR.o;have HAO:=ai hao;clear hao;rcases Cx T1 k r P.m with hx|⟨d,hx,hd⟩
      ·have HNX:=ai hx;have HRS2:Hid (P.rs T1 k P.m=-1):=ai (Ey HR.o HFR.o HRS.o h1p.out hx);clear hx HRS;have HRS:=HRS2;have cT_2:=HBT_5.o.c2;go_wp2_with fail;refine((HNX.o▸AA (HBT_5.o) (HB0_5.o) HAO.o HR.o hlt hm)).mono ?_;rintro e w6 ⟨rfl,e6⟩;have HX6:=ai (HX5.o.trans e6);have HBT_6:=ai (HBT_5.o.ext e6);have HBc_6:=ai (HBc_5.o.ext e6);have HB0_6:=ai (HB0_5.o.ext e6);clear e6 cT_2;go_wp2_with fail;go_roundw
       case rel=>exact⟨k+1,by go_num,ae,ai ⟨HX6.o,HBc_6.o,⟨M1,by rw[LP.rel,HT1.o,oS HRS.o];exact HBT_6.o,HNEC2.o⟩⟩⟩
       case measure=>simp[intOf];omega
      ·have HNX:=ai hx;have HD:=ai hd;have HDM:Hid (r+1+d<P.m):=ai (GD hd.1);have hd0:¬ (d:Int)<0:=Int.not_lt.2 (Int.natCast_nonneg d);have hw1:=F9 HDM.o hm;have hw2:=F8 HDM.o hm;clear hx hd;have cT_2:=HBT_5.o.c2;go_wp2_with fail;refine((HNX.o▸AA (HBT_5.o) (HB0_5.o) HAO.o HR.o hlt hm)).mono ?_;rintro e w6 ⟨rfl,e6⟩;have HX6:=ai (HX5.o.trans e6);have HBT_6:=ai (HBT_5.o.ext e6);have HBc_6:=ai (HBc_5.o.ext e6);have HB0_6:=ai (HB0_5.o.ext e6);clear e6 cT_2;go_wp2_with fail;go_roundw
       case rel=>exact⟨(r:Int)+(1+(d:Int)),by go_num,ai (xK HR.o HFR.o HRS.o h1p.out HD.o),ai ⟨HX6.o,HB0_6.o,HBc_6.o,HBT_6.o⟩⟩
       case measure=>rw[hw2];exact zK HDM.o
  ·have hk2:k=P.n:=ae;have hge:¬ (k:Int)<((P.n:Nat):Int):=ae;go_wp2
   first|go_end0|((try simp only[Exit.inBlock,Exit.then]);refine bodyPost_ret (results_none rfl _ _ _) rfl ?_)
   exact⟨rfl,HX2.o.ext,M1,by rw[← hk2,HT1.o];exact HBT_2.o⟩
def lg(P:LP)(vf:Nat->Value)(c:Nat):Value:=if c % 2=0 then .string (qs (P.B (c / 2))) else vf (c / 2)
theorem Ie{P:LP}{vf:Nat->Value}{i:Nat}:lg P vf (i*2) = .string (qs (P.B i)):=by
 have h1:i*2 % 2=0:=ae;have h2:i*2 / 2=i:=ae;rw[lg,if_pos h1,h2]
theorem Ic{P:LP}{vf:Nat->Value}{i:Nat}:lg P vf (i*2+1)=vf i:=by
 have h1:¬ (i*2+1) % 2=0:=ae;have h2:(i*2+1) / 2=i:=ae;rw[lg,if_neg h1,h2]
theorem pN{X w:World}{t:TypeId}{sz n:Nat}{v:Value}{G:Nat->Value}(h:bB X w t sz v n G){k:Nat}(hk:ep v k):∃ C,aq w k C t:=by
 rcases h with⟨h,_⟩|⟨k',cap,C,h1,h2,h3,_⟩
 ·rw[h] at hk;exact absurd hk iV
 ·rw[h1] at hk;rw[← dY.1 hk];exact⟨C,h3⟩
theorem bA{w:World}{t t':TypeId}{k k':Nat}{C C':Array Value}(h:aq w k C t)(h':aq w k' C' t')(ht:t≠t'):k≠k':=h.ne h' ht
theorem bB.apart{X w:World}{t t':TypeId}{sz sz' n n':Nat}{v v':Value}{G G':Nat->Value}(h:bB X w t sz v n G)(h':bB X w t' sz' v' n' G')(ht:t≠t'):∀ k,ep v k->¬ ep v' k:=fun k a b =>
 let ⟨_,x⟩:=pN h a;let ⟨_,y⟩:=pN h' b;bA x y ht rfl
theorem bB.other{X w:World}{t:TypeId}{sz n:Nat}{v:Value}{G:Nat->Value}(h:bB X w t sz v n G){a:Addr}(u:Value)(hk:¬ ep v a.block):bB X (w.setCell a u) t sz v n G:=by
 rcases h with h|⟨k,cap,C,h1,h2,h3,h4⟩
 ·exact Or.inl h
 ·exact Or.inr ⟨k,cap,C,h1,h2,h3.other u (fun e=>hk (by rw[h1];exact dY.2 e)),h4⟩
theorem bB.aI{X w:World}{t t':TypeId}{sz n:Nat}{v:Value}{G:Nat->Value}(h:bB X w t sz v n G){k:Nat}{C:Array Value}(hB:aq w k C t')(ht:t≠t'):¬ ep v k:=fun hk =>
 let ⟨_,x⟩:=pN h hk;bA x hB ht rfl
structure OS(X:World)(P:LP)(p:Nat)(c1 c2 c3 vb:Value)(nb:Nat)(vl:Value)(nl nf:Nat)(vo:Value)(no:Nat)(vw:Value)(vf:Nat->Value)(W:World):Prop where
 tab:aq W p #[.int .i64 (P.n:Int),c1,c2,c3,.string ⟨#[48]⟩,vw] 185
 up:X.heap.size<=p
 b:bB X W 3 1 vb nb (fun i => .int .i64 ((P.n:Int)+(i:Int)))
 l:bB X W 182 2 vl nl (lg P vf)
 o:bB X W 3 1 vo no (fun j => .int .i64 (j:Int))
 w:bB X W 34 1 vw P.n (fun j => .string (qs (P.C j)))
 f:∀ i,i<nf->bB X W 34 1 (vf i) P.n (fun j => .string (qs (-P.A i j)))
 bo:∀ k,ep vb k->¬ ep vo k
 fw:∀ i,i<nf->∀ k,ep (vf i) k->¬ ep vw k
 ff:∀ i i',i<nf->i'<nf->i≠i'->∀ k,ep (vf i) k->¬ ep (vf i') k
def OD(p:Nat)(vb vl vo vw:Value)(vf:Nat->Value)(nf k:Nat):Prop:=k=p∨ep vb k∨ep vl k∨ep vo k∨ep vw k∨∃ i,i<nf/\ep (vf i) k
section
variable {X W W':World} {P:LP} {p nb nl nf no:Nat} {c1 c2 c3 vb vl vo vw v':Value} {vf:Nat->Value} {H:Nat->Value}
theorem OS.map(h:OS X P p c1 c2 c3 vb nb vl nl nf vo no vw vf W)(ht:∀ C,aq W p C 185->aq W' p C 185)(hk:∀ k C t,t≠185->aq W k C t->aq W' k C t):OS X P p c1 c2 c3 vb nb vl nl nf vo no vw vf W':=by
 have m:∀ {t:TypeId} {sz n:Nat} {v:Value} {G:Nat->Value},t≠185->bB X W t sz v n G->bB X W' t sz v n G:=fun ht h=>by
  rcases h with h|⟨k,cap,C,h1,h2,h3,h4⟩
  ·exact Or.inl h
  ·exact Or.inr ⟨k,cap,C,h1,h2,hk _ _ _ ht h3,h4⟩
 exact⟨ht _ h.tab,h.up,m af h.b,m af h.l,m af h.o,m af h.w,fun i hi=>m af (h.f i hi),h.bo,h.fw,h.ff⟩
theorem OS.ext(h:OS X P p c1 c2 c3 vb nb vl nl nf vo no vw vf W)(e:Ext W W'):OS X P p c1 c2 c3 vb nb vl nl nf vo no vw vf W':=h.map (fun _ b=>b.ext e) (fun _ _ _ _ b=>b.ext e)
theorem OS.mv {Y:World} {S:Nat->Prop} (h:OS X P p c1 c2 c3 vb nb vl nl nf vo no vw vf W) (m:Mv Y W S W') (h0:¬ S p) (h1:∀ k,ep vb k->¬ S k) (h2:∀ k,ep vl k->¬ S k) (h3:∀ k,ep vo k->¬ S k) (h4:∀ k,ep vw k->¬ S k)
    (h5:∀ i,i<nf->∀ k,ep (vf i) k->¬ S k):OS X P p c1 c2 c3 vb nb vl nl nf vo no vw vf W' :=
 ⟨m.az h.tab h0,h.up,h.b.mv m h1,h.l.mv m h2,h.o.mv m h3,h.w.mv m h4,fun i hi=>(h.f i hi).mv m (h5 i hi),h.bo,h.fw,h.ff⟩
theorem OS.alloc(h:OS X P p c1 c2 c3 vb nb vl nl nf vo no vw vf W)(o:Obj):OS X P p c1 c2 c3 vb nb vl nl nf vo no vw vf (W.alloc o):=h.ext ((Ext.refl _).alloc o)
theorem OS.drew(h:OS X P p c1 c2 c3 vb nb vl nl nf vo no vw vf W):OS X P p c1 c2 c3 vb nb vl nl nf vo no vw vf W.drew:=h.ext (Ext.refl _).drew
theorem OS.lt(h:OS X P p c1 c2 c3 vb nb vl nl nf vo no vw vf W):∀ k,OD p vb vl vo vw vf nf k->k<W.heap.size:=fun k hk=>by
 rcases hk with rfl|hk|hk|hk|hk|⟨i,hi,hk⟩
 ·exact h.tab.lt
 ·exact(h.b.lt hk).2
 ·exact(h.l.lt hk).2
 ·exact(h.o.lt hk).2
 ·exact(h.w.lt hk).2
 ·exact((h.f i hi).lt hk).2
theorem OS.ne(h:OS X P p c1 c2 c3 vb nb vl nl nf vo no vw vf W){b:Nat}(hb:W.heap.size<=b):∀ k,OD p vb vl vo vw vf nf k->k≠b:=fun k hk e=>by have:=h.lt k hk;omega
theorem OS.Iv{Y:World}{S:Nat->Prop}(h:OS X P p c1 c2 c3 vb nb vl nl nf vo no vw vf W)(m:Mv Y W S W')(hs:∀ k,OD p vb vl vo vw vf nf k->¬ S k):OS X P p c1 c2 c3 vb nb vl nl nf vo no vw vf W' :=
 h.mv m (hs _ (Or.inl rfl)) (fun k hk=>hs k (Or.inr (Or.inl hk))) (fun k hk=>hs k (Or.inr (Or.inr (Or.inl hk)))) (fun k hk=>hs k (Or.inr (Or.inr (Or.inr (Or.inl hk))))) (fun k hk=>hs k (Or.inr (Or.inr (Or.inr (Or.inr (Or.inl hk)))))) (fun i hi k hk=>hs k (Or.inr (Or.inr (Or.inr (Or.inr (Or.inr ⟨i,hi,hk⟩))))))
theorem OS.other(h:OS X P p c1 c2 c3 vb nb vl nl nf vo no vw vf W){a:Addr}(u:Value)(hk:∀ k,OD p vb vl vo vw vf nf k->k≠a.block):OS X P p c1 c2 c3 vb nb vl nl nf vo no vw vf (W.setCell a u) :=
 ⟨h.tab.other u (hk _ (Or.inl rfl)),h.up,h.b.other u (fun e=>hk _ (Or.inr (Or.inl e)) rfl),h.l.other u (fun e=>hk _ (Or.inr (Or.inr (Or.inl e))) rfl),h.o.other u (fun e=>hk _ (Or.inr (Or.inr (Or.inr (Or.inl e)))) rfl),
  h.w.other u (fun e=>hk _ (Or.inr (Or.inr (Or.inr (Or.inr (Or.inl e))))) rfl),fun i hi=>(h.f i hi).other u (fun e=>hk _ (Or.inr (Or.inr (Or.inr (Or.inr (Or.inr ⟨i,hi,e⟩))))) rfl),h.bo,h.fw,h.ff⟩
theorem OS.GP(h:OS X P p c1 c2 c3 vb nb vl nl nf vo no vw vf W)(a:App X W 3 1 vb nb 1 (fun i => .int .i64 ((P.n:Int)+(i:Int))) H v' W')(hH:H 0 = .int .i64 ((P.n:Int)+(nb:Int))):OS X P p c1 c2 c3 v' (nb+1) vl nl nf vo no vw vf W' where
 tab:=a.mv.az h.tab (h.b.aI h.tab af)
 up:=h.up
 b:=a.own.congr (fun i hi=>by
  by_cases e:i<nb
  ·rw[fm ae]
  ·have:i=nb:=ae;subst this;rw[dO ae,show i-i*1=0 by omega,hH])
 l:=h.l.mv a.mv (fun k hk hb=>(h.l.apart h.b af) k hk hb)
 o:=h.o.mv a.mv (fun k hk hb=>h.bo k hb hk)
 w:=h.w.mv a.mv (fun k hk hb=>(h.w.apart h.b af) k hk hb)
 f:=fun i hi=>(h.f i hi).mv a.mv (fun k hk hb=>((h.f i hi).apart h.b af) k hk hb)
 bo:=fun k hk ho=>(a.new k hk).elim (fun hb=>h.bo k hb ho) (fun hn=>by have:=(h.o.lt ho).2;omega)
 fw:=h.fw
 ff:=h.ff
theorem OS.GO(h:OS X P p c1 c2 c3 vb nb vl nl nf vo no vw vf W)(a:App X W 182 2 vl nl 1 (lg P vf) H v' W')(h0:H 0 = .string (qs (P.B nl)))(h1:H 1=vf nl):OS X P p c1 c2 c3 vb nb v' (nl+1) nf vo no vw vf W' where
 tab:=a.mv.az h.tab (h.l.aI h.tab af)
 up:=h.up
 b:=h.b.mv a.mv (fun k hk hb=>(h.b.apart h.l af) k hk hb)
 l:=a.own.congr (fun i hi=>by
  by_cases e:i<nl*2
  ·rw[fm e]
  ·rw[dO e];rcases (by omega:i=nl*2∨i=nl*2+1) with e|e
   ·rw[e,Nat.sub_self,h0,Ie]
   ·rw[e,show nl*2+1-nl*2=1 by omega,h1,Ic])
 o:=h.o.mv a.mv (fun k hk hb=>(h.o.apart h.l af) k hk hb)
 w:=h.w.mv a.mv (fun k hk hb=>(h.w.apart h.l af) k hk hb)
 f:=fun i hi=>(h.f i hi).mv a.mv (fun k hk hb=>((h.f i hi).apart h.l af) k hk hb)
 bo:=h.bo
 fw:=h.fw
 ff:=h.ff
theorem OS.st{c1' c2' c3':Value}(h:OS X P p c1 c2 c3 vb nb vl nl nf vo no vw vf W)(hm:∀ k C t,k≠p->aq W k C t->aq W' k C t)(hB:aq W' p #[.int .i64 (P.n:Int),c1',c2',c3',.string ⟨#[48]⟩,vw] 185):OS X P p c1' c2' c3' vb nb vl nl nf vo no vw vf W':=by
 have m:∀ {t:TypeId} {sz n:Nat} {v:Value} {G:Nat->Value},t≠185->bB X W t sz v n G->bB X W' t sz v n G:=fun ht h'=>by
  rcases h' with h'|⟨k,cap,C,h1,h2,h3,h4⟩
  ·exact Or.inl h'
  ·exact Or.inr ⟨k,cap,C,h1,h2,hm _ _ _ (bA h3 h.tab ht) h3,h4⟩
 exact⟨hB,h.up,m af h.b,m af h.l,m af h.o,m af h.w,fun i hi=>m af (h.f i hi),h.bo,h.fw,h.ff⟩
theorem Et{a b c d e f v:Value}(i:Nat)(r:Array Value)(h:(#[a,b,c,d,e,f]:Array Value).setIfInBounds i v=r){k:Nat}{ty:TypeId}(hB:aq W k #[a,b,c,d,e,f] ty):aq (W.setCell ⟨k,i,none⟩ v) k r ty:=h▸hB.set i v
theorem OS.Hj(h:OS X P p c1 c2 c3 vb nb vl nl nf vo no vw vf W)(v:Value):OS X P p v c2 c3 vb nb vl nl nf vo no vw vf (W.setCell ⟨p,1,none⟩ v):=h.st (fun k C t hk b=>b.other (a:=⟨p,1,none⟩) v hk) (Et 1 _ rfl h.tab)
theorem OS.Hi(h:OS X P p c1 c2 c3 vb nb vl nl nf vo no vw vf W)(v:Value):OS X P p c1 v c3 vb nb vl nl nf vo no vw vf (W.setCell ⟨p,2,none⟩ v):=h.st (fun k C t hk b=>b.other (a:=⟨p,2,none⟩) v hk) (Et 2 _ rfl h.tab)
theorem OS.Hh(h:OS X P p c1 c2 c3 vb nb vl nl nf vo no vw vf W)(v:Value):OS X P p c1 c2 v vb nb vl nl nf vo no vw vf (W.setCell ⟨p,3,none⟩ v):=h.st (fun k C t hk b=>b.other (a:=⟨p,3,none⟩) v hk) (Et 3 _ rfl h.tab)
theorem OS.d0(h:OS X P p c1 c2 c3 vb nb vl nl nf vo no vw vf W):W.cell? ⟨p,0,none⟩=some (.int .i64 (P.n:Int)):=h.tab.cell 0 rfl
theorem OS.d1(h:OS X P p c1 c2 c3 vb nb vl nl nf vo no vw vf W):W.cell? ⟨p,1,none⟩=some c1:=h.tab.cell 1 rfl
theorem OS.d2(h:OS X P p c1 c2 c3 vb nb vl nl nf vo no vw vf W):W.cell? ⟨p,2,none⟩=some c2:=h.tab.cell 2 rfl
theorem OS.d3(h:OS X P p c1 c2 c3 vb nb vl nl nf vo no vw vf W):W.cell? ⟨p,3,none⟩=some c3:=h.tab.cell 3 rfl
theorem OS.free(h:OS X P p c1 c2 c3 vb nb vl nl nf vo no vw vf W)(i:Nat):W.frozen? ⟨p,i,none⟩=false:=h.tab.free i
theorem OS.GN(h:OS X P p c1 c2 c3 (.slice none 0 0) nb vl nl nf vo no vw vf W)(a:App X W 3 1 vo no 1 (fun j => .int .i64 (j:Int)) H v' W')(hH:H 0 = .int .i64 (no:Int)):OS X P p c1 c2 c3 (.slice none 0 0) nb vl nl nf v' (no+1) vw vf W' where
 tab:=a.mv.az h.tab (h.o.aI h.tab af)
 up:=h.up
 b:=h.b.mv a.mv (fun k hk=>absurd hk iV)
 l:=h.l.mv a.mv (fun k hk hb=>(h.l.apart h.o af) k hk hb)
 o:=a.own.congr (fun i hi=>by
  by_cases e:i<no
  ·rw[fm ae]
  ·have:i=no:=ae;subst this;rw[dO ae,show i-i*1=0 by omega,hH])
 w:=h.w.mv a.mv (fun k hk hb=>(h.w.apart h.o af) k hk hb)
 f:=fun i hi=>(h.f i hi).mv a.mv (fun k hk hb=>((h.f i hi).apart h.o af) k hk hb)
 bo:=fun k hk=>absurd hk iV
 fw:=h.fw
 ff:=h.ff
theorem OD.GP(ha:∀ k,ep v' k->ep vb k∨W.heap.size<=k){k:Nat}(h:OD p v' vl vo vw vf nf k):OD p vb vl vo vw vf nf k∨W.heap.size<=k:=by
 rcases h with h|h|h
 ·exact Or.inl (Or.inl h)
 ·exact(ha k h).imp (fun h=>Or.inr (Or.inl h)) id
 ·exact Or.inl (Or.inr (Or.inr h))
theorem OD.GO(ha:∀ k,ep v' k->ep vl k∨W.heap.size<=k){k:Nat}(h:OD p vb v' vo vw vf nf k):OD p vb vl vo vw vf nf k∨W.heap.size<=k:=by
 rcases h with h|h|h|h
 ·exact Or.inl (Or.inl h)
 ·exact Or.inl (Or.inr (Or.inl h))
 ·exact(ha k h).imp (fun h=>Or.inr (Or.inr (Or.inl h))) id
 ·exact Or.inl (Or.inr (Or.inr (Or.inr h)))
theorem OD.GN(ha:∀ k,ep v' k->ep vo k∨W.heap.size<=k){k:Nat}(h:OD p vb vl v' vw vf nf k):OD p vb vl vo vw vf nf k∨W.heap.size<=k:=by
 rcases h with h|h|h|h|h
 ·exact Or.inl (Or.inl h)
 ·exact Or.inl (Or.inr (Or.inl h))
 ·exact Or.inl (Or.inr (Or.inr (Or.inl h)))
 ·exact(ha k h).imp (fun h=>Or.inr (Or.inr (Or.inr (Or.inl h)))) id
 ·exact Or.inl (Or.inr (Or.inr (Or.inr (Or.inr h))))
theorem OS.HU (h : OS X P p c1 c2 c3 vb nb vl nl nf vo no vw vf W) (hn : nl <= nf) {vr : Value} (hr : bB X W 34 1 vr P.n (fun j => .string (qs (-P.A nf j)))) (hw : ∀ k, ep vr k -> ¬ ep vw k) (hf : ∀ i, i < nf -> ∀ k, ep vr k -> ¬ ep (vf i) k) :
    OS X P p c1 c2 c3 vb nb vl nl (nf+1) vo no vw (fun i=>if i=nf then vr else vf i) W where
 tab:=h.tab
 up:=h.up
 b:=h.b
 l:=h.l.congr (fun i hi=>by
  by_cases e:i % 2=0
  ·rw[lg,lg,if_pos e,if_pos e]
  ·rw[lg,lg,if_neg e,if_neg e,if_neg ae])
 o:=h.o
 w:=h.w
 f:=fun i hi=>by
  by_cases e:i=nf
  ·subst e;simp only[if_true];exact hr
  ·simp only[if_neg e];exact h.f i ae
 bo:=h.bo
 fw:=fun i hi k hk=>by
  by_cases e:i=nf
  ·simp only[if_pos e] at hk;exact hw k hk
  ·simp only[if_neg e] at hk;exact h.fw i ae k hk
 ff:=fun i i' hi hi' hne k hk hk'=>by
  by_cases e:i=nf
  ·have e':¬ i'=nf:=ae;simp only[if_pos e] at hk;simp only[if_neg e'] at hk';exact hf i' ae k hk hk'
  ·simp only[if_neg e] at hk;by_cases e':i'=nf
   ·simp only[if_pos e'] at hk';exact hf i ae k hk' hk
   ·simp only[if_neg e'] at hk';exact h.ff i i' ae ae hne k hk hk'
end
def FY:Value->Option Addr
 | .slice a _ _=>a
 | _=>none
def dE(d:Nat):Value->Nat
 | .slice (some a) _ _=>a.block
 | _=>d
def ri:Value->Nat
 | .slice _ _ c=>c
 | _=>0
theorem bB.shape{X w:World}{t:TypeId}{sz n d:Nat}{v:Value}{G:Nat->Value}(h:bB X w t sz v n G):v = .slice (oa n (dE d v) (FY v)) n (ri v)/\n<=ri v/\ri v<=maxLen:=by
 rcases h with⟨rfl,rfl⟩|⟨k,cap,C,rfl,h2,h3,h4,h5,_⟩
 ·exact⟨rfl,Nat.le_refl _,Nat.zero_le _⟩
 ·refine⟨?_,h4,h5⟩;simp only[dE,FY,ri,oa,ite_self]
theorem bB.dE{X w:World}{t:TypeId}{sz n d:Nat}{v:Value}{G:Nat->Value}(h:bB X w t sz v n G)(hn:0<n):ep v (dE d v)/\∃ C,aq w (dE d v) C t/\∀ i,i<n*sz->C[i]?=some (G i):=by
 obtain⟨k,cap,C,rfl,h2,h3,h4,h5,h6,h7⟩:=h.az hn;exact⟨dY.2 rfl,C,h3,h7⟩
theorem bB.eQ{X w:World}{t:TypeId}{sz n d:Nat}{v:Value}{G:Nat->Value}(h:bB X w t sz v n G)(hd:X.heap.size<=d/\d<w.heap.size):X.heap.size<=Go.Proofs.YtmahadmefplbnaaGreatDoor.dE d v/\Go.Proofs.YtmahadmefplbnaaGreatDoor.dE d v<w.heap.size:=by
 rcases h with⟨rfl,rfl⟩|⟨k,cap,C,rfl,h2,h3,_⟩
 ·exact hd
 ·exact⟨h2,h3.lt⟩
def om(p:Nat)(vb vl vo vw:Value)(vf:Nat->Value):TM where
 bb:=dE p vb
 bc:=ri vb
 lb:=dE p vl
 lc:=ri vl
 ob:=dE p vo
 oc:=ri vo
 wb:=dE p vw
 wcap:=ri vw
 fb i:=dE p (vf i)
 fc i:=ri (vf i)
 bx:=FY vb
 lx:=FY vl
 ox:=FY vo
 wx:=FY vw
 fx i:=FY (vf i)
theorem OS.ta{X W:World}{P:LP}{p:Nat}{vb vl vo vw:Value}{vf:Nat->Value}(h:OS X P p vb vl vo vb P.m vl P.m P.m vo P.n vw vf W):TA X P P.first p (om p vb vl vo vw vf) W:=by
 have hp:=And.intro h.up h.tab.lt;refine⟨⟨⟨_,h.tab,?_⟩,fun hm=>?_,fun hm=>?_,fun hn=>?_,fun hn=>?_,fun hn i hi=>?_,fun hn i i' hi hi' e=>?_,fun hn i hi e=>?_,fun hm hn e=>?_,?_⟩,?_,?_⟩
 ·simp only[rk,om,LP.first];refine⟨rfl,?_,?_,?_,by rw[bE];rfl,?_⟩
  ·rw[← (h.b.shape (d:=p)).1];rfl
  ·rw[← (h.l.shape (d:=p)).1];rfl
  ·rw[← (h.o.shape (d:=p)).1];rfl
  ·rw[← (h.w.shape (d:=p)).1];rfl
 ·obtain⟨_,C,b,c⟩:=h.b.dE (d:=p) hm;exact⟨C,b,fun i hi=>by rw[c i ae];simp only[LP.first];rw[Int.natCast_add]⟩
 ·obtain⟨_,C,b,c⟩:=h.l.dE (d:=p) hm;refine⟨C,b,fun i hi=>⟨by rw[c _ ae,Ie];rfl,?_⟩⟩;rw[c _ ae,Ic];simp only[om];rw[← ((h.f i hi).shape (d:=p)).1]
 ·obtain⟨_,C,b,c⟩:=h.o.dE (d:=p) hn;exact⟨C,b,fun j hj=>by rw[c j ae];rfl⟩
 ·obtain⟨_,C,b,c⟩:=h.w.dE (d:=p) hn;exact⟨C,b,fun j hj=>by rw[c j ae];rfl⟩
 ·obtain⟨_,C,b,c⟩:=(h.f i hi).dE (d:=p) hn;exact⟨C,b,fun j hj=>by rw[c j ae];rfl⟩
 ·rcases Nat.lt_or_ge i i' with h'|h'
  ·exact absurd ((h.f i' hi').dE (d:=p) hn).1 (by rw[show dE p (vf i')=dE p (vf i) from e.symm];exact h.ff i i' hi hi' ae _ ((h.f i hi).dE (d:=p) hn).1)
  ·rcases Nat.lt_or_ge i' i with h''|h''
   ·exact absurd ((h.f i' hi').dE (d:=p) hn).1 (by rw[show dE p (vf i')=dE p (vf i) from e.symm];exact h.ff i i' hi hi' ae _ ((h.f i hi).dE (d:=p) hn).1)
   ·omega
 ·exact absurd (h.w.dE (d:=p) hn).1 (by rw[show dE p vw=dE p (vf i) from e.symm];exact h.fw i hi _ ((h.f i hi).dE (d:=p) hn).1)
 ·exact absurd (h.o.dE (d:=p) hn).1 (by rw[show dE p vo=dE p vb from e.symm];exact h.bo _ (h.b.dE (d:=p) hm).1)
 ·exact⟨(h.b.shape (d:=p)).2,(h.l.shape (d:=p)).2,(h.o.shape (d:=p)).2,(h.w.shape (d:=p)).2,fun i hi=>((h.f i hi).shape (d:=p)).2⟩
 ·rintro k (rfl|rfl|rfl|rfl|rfl|⟨i,hi,rfl⟩)
  ·exact hp.1
  ·exact(h.b.eQ hp).1
  ·exact(h.l.eQ hp).1
  ·exact(h.o.eQ hp).1
  ·exact(h.w.eQ hp).1
  ·exact((h.f i hi).eQ hp).1
 ·rintro k (rfl|rfl|rfl|rfl|rfl|⟨i,hi,rfl⟩)
  ·exact hp.2
  ·exact(h.b.eQ hp).2
  ·exact(h.l.eQ hp).2
  ·exact(h.o.eQ hp).2
  ·exact(h.w.eQ hp).2
  ·exact((h.f i hi).eQ hp).2
theorem fZ:prog.underlying 30=some (.slice 34):=ag
theorem Dv {v:Value} {n:Nat} {g:Nat->Value} {w:World} (h:Rd w v n g) (h1:∀ j,j<n->(g j).oneCell'=true) (hn:n<=1000) :
    Calls prog 194 #[v] w fun e w'=>∃ v',e = .returned v'/\Ext w w'/\bB w w' 34 1 v' n g:=by
 obtain⟨ao,cap,rfl,c1,c2,hc⟩:=h;cases ao with
 | none =>
  have hn0:n=0:=by
   rcases Nat.eq_zero_or_pos n with h|h
   ·exact h
   ·obtain⟨a,e,_⟩:=hc 0 h;cases e
  subst hn0;have hb:∀ W,(binOp BinOp.eql 30 (.slice none 0 cap) (.slice none 0 0)).run prog W = .ok (.bool true) W:=fun W=>ag
  clear hc;go_enter func194,ntmps194;go_wp2;go_ret;exact⟨_,rfl,Ext.refl _,Or.inl ⟨rfl,rfl⟩⟩
 | some a =>
  have HC:Hid (∀ j,j<n->w.cell? (a.add j)=some (g j)):=ai (fun j hj=>by obtain⟨b,e,h⟩:=hc j hj;rw[Option.some.inj e];exact h);have H1:=ai h1;have hb:∀ W,(binOp BinOp.eql 30 (.slice (some a) n cap) (.slice none 0 0)).run prog W = .ok (.bool false) W:=fun W=>ag
  clear hc h1;have hs:n<=maxLen:=Nat.le_trans c1 c2;go_enter func194,ntmps194;have hX:Ext w (w.alloc (.cells #[] 34)):=(Ext.refl w).alloc _;have hO:bB w (w.alloc (.cells #[] 34)) 34 1 (.slice (some ⟨w.heap.size,0,none⟩) 0 0) 0 g:=Or.inr ⟨_,0,#[],rfl,Nat.le_refl _,aq.new _ _ _,Nat.le_refl _,Nat.zero_le _,rfl,fun i hi=>ae⟩;have HX:=ai hX;have HO:=ai hO;clear hX hO;go_wp2_with (at_builtin;refine wpList_plain rfl fun K_ hK_=>eH (X:=w) (G:=g) (H:=g) rfl rfl rfl fZ gw rfl HX.o HO.o (fun e=>by cases e) (fun j hj=>ax HX.o (HC.o j ae)) (fun j hj=>H1.o j ae) ae ae (fun v' w' hA=>hK_ _ _ ?_));have HA:=ai hA;clear hA;go_wp2;go_ret;refine⟨_,rfl,HA.o.mv.ext,?_⟩;have:=HA.o.own;rw[Nat.zero_add] at this;exact this.congr (fun i hi=>by rw[dO ae];simp)
def Rw(w:World)(v:Value)(m:Nat)(a b:Nat->Value):Prop:=∃ (ao:Option Addr) (cap:Nat),v = .slice ao m cap/\m<=cap/\cap<=maxLen /\
 ∀ i,i<m->∃ lb o,ao=some ⟨lb,o,none⟩/\w.cell? ⟨lb,o+i*2,none⟩=some (a i)/\w.cell? ⟨lb,o+i*2+1,none⟩=some (b i)
theorem Rw.ext{w w':World}{v:Value}{m:Nat}{a b:Nat->Value}(h:Rw w v m a b)(e:Ext w w'):Rw w' v m a b:=by
 obtain⟨ao,cap,h1,h2,h3,h4⟩:=h;exact⟨ao,cap,h1,h2,h3,fun i hi=>let ⟨lb,o,e1,e2,e3⟩:=h4 i hi;⟨lb,o,e1,ax e e2,ax e e3⟩⟩
structure PM(P:LP)(w:World)(vr vc:Value)(va:Nat->Value):Prop where
 rows:Rw w vr P.m va (fun i => .string (qs (P.B i)))
 kl:∀ i,i<P.m->Rq w (va i) P.n (P.A i)
 obj:Rq w vc P.n P.C
theorem PM.ext{P:LP}{w w':World}{vr vc:Value}{va:Nat->Value}(h:PM P w vr vc va)(e:Ext w w'):PM P w' vr vc va:=⟨h.rows.ext e,fun i hi=>(h.kl i hi).ext e,h.obj.ext e⟩
def GX(P:LP)(w:World)(e:Ending)(w':World):Prop:=∃ (pk:Nat) (M:TM),e = .returned (.pointer (some ⟨pk,0,none⟩))/\Ext w w'/\TA w P P.first pk M w'
theorem vR:prog.underlying 85=some (.slice 3):=ag
theorem AG:(prog.info? 3).map (fun i=>(i.zero,i.size,i.bytes))=some (some (.int .i64 0),1,8):=ag
theorem BS:prog.underlying 183=some (.slice 182):=ag
theorem Fp:(prog.info? 182).map (fun i=>(i.zero,i.size,i.bytes))=some (some (.agg #[.string ⟨#[]⟩,.slice none 0 0]),2,40):=ag
theorem E6{X w W:World}{t:TypeId}{sz n:Nat}{v:Value}{G:Nat->Value}(e:Ext w W)(h:bB w W t sz v n G)(hs:X.heap.size<=w.heap.size):bB X W t sz v n G:=by
 rcases h with h|⟨k,cap,C,h1,h2,h3⟩
 ·exact Or.inl h
 ·exact Or.inr ⟨k,cap,C,h1,Nat.le_trans hs h2,h3⟩
theorem bB.one{X w:World}{t:TypeId}{sz n:Nat}{v:Value}{G:Nat->Value}(h:bB X w t sz v n G):v.oneCell'=true:=by
 rcases h with⟨rfl,_⟩|⟨k,cap,C,rfl,_⟩ <;> rfl
theorem bB.iH{X w:World}{t:TypeId}{sz n:Nat}{v:Value}{G:Nat->Value}(h:bB X w t sz v n G):∃ a k c,v = .slice a k c:=by
 rcases h with⟨rfl,_⟩|⟨k,cap,C,rfl,_⟩ <;> exact⟨_,_,_,rfl⟩
theorem fL {P:Program} {X w:World} {e:TypeId} {z:Value} {sz bytes n m c:Nat} {v:Value} {G H:Nat->Value} {ad:Addr} {o:Oper} {a:Act} {Q:Exit->Act->World->Prop} {K:Act->World->Prop} {s x:Operand} {t:TypeId} (ho:o.op = .call { callee:=.builtin .append,args:=#[s,x],argTypes:=#[t,t] })
    (hs:a.eval s=v) (hx:a.eval x = .slice (some ad) m c) (ht:P.underlying t=some (.slice e)) (hi:(P.info? e).map (fun i=>(i.zero,i.size,i.bytes))=some (some z,sz,bytes)) (hzs:z.cells.size=sz)
    (hX:Ext X w) (h:bB X w e sz v n G) (hm0:v = .slice none 0 0->0<m) (hsrc:∀ j,j<m*sz->w.cell? (ad.add j)=some (H j)) (h1:∀ j,j<m*sz->(H j).oneCell'=true) (h63:n+m<=maxLen) (hb:(n+m)*bytes<=140737488355328)
    (hK:∀ b k c w',App X w e sz v n m G H (.slice b k c) w'->K (a.put o.dst (.slice b k c)) w'):o.wp P a w K Q :=
 eH ho hs hx ht hi hzs hX h hm0 hsrc h1 h63 hb fun v' w' hA=>by
  obtain⟨b,k,c,rfl⟩:=hA.own.iH;exact hK b k c w' hA
theorem Hz{X w:World}{t:TypeId}{v:Value}{n:Nat}{G H:Nat->Value}(h:bB X w t 1 v (n+1) (app (n*1) G H))(hH:H 0=G n):bB X w t 1 v (n+1) G:=h.congr (fun i hi=>by
 by_cases e:i<n
 ·rw[fm ae]
 ·have:i=n:=ae;subst this;rw[dO ae,show i-i*1=0 by omega,hH])
theorem BU{w:World}{b:Nat}{t:TypeId}{x y:Value}(h:aq w b #[x,y] t):∀ j,j<1*2->w.cell? ((⟨b,0,none⟩:Addr).add j)=some (if j=0 then x else y):=fun j hj=>by
 rcases (by omega:j=0∨j=1) with rfl|rfl
 ·exact eR h rfl
 ·exact eR h rfl
theorem BV{x y:Value}(hx:x.oneCell'=true)(hy:y.oneCell'=true):∀ j,j<1*2->(if j=0 then x else y).oneCell'=true:=fun j hj=>by
 split
 ·exact hx
 ·exact hy
theorem Cp(P:LP)(vr0 vc:Value)(va:Nat->Value){q:Nat}(w:World)(g:Gd w)(hP:PM P w vr0 vc va)(hn:P.n<=1000)(hm:P.m<=1000)(hq2:q<=400)(qa:∀ i,i<P.m->∀ j,j<P.n->QB q (P.A i j)):Calls prog 121 #[.agg #[.int .i64 (P.n:Int),vr0,vc]] w (GX P w):=by
 have HG:=ai g;have HQA:=ai qa;clear g qa;have HPO:=ai hP.obj;have HPF:=ai hP.kl;obtain⟨ro,rcap,rfl,_,_,hrr⟩:=hP.rows;have HRR:=ai hrr;clear hrr hP;go_enter func121,ntmps121;go_wp2_with fail;refine aw (fun W=>Ext w W/\aq W (w.heap.size) (#[.int .i64 (P.n:Int),.slice ro P.m rcap,vc]) 32) ⟨((Ext.refl w).alloc _),(aq.nw (#[.int .i64 (P.n:Int),.slice ro P.m rcap,vc]) 32)⟩ ?_;rintro w1 ⟨e1,bB0_1⟩;have HX1:=ai e1;have HB0_1:=ai bB0_1;have HGEB0:Hid (w.heap.size<=w.heap.size):=ai (Nat.le_refl _);clear e1 bB0_1;refine ay [.val (.pointer (some ⟨w.heap.size,0,none⟩)),.val (.int .i64 (P.n:Int)),.val (.pointer (some ⟨w.heap.size,2,none⟩)),.val (vc),.aR,.aR,.aR,.aR,.aR] (fun L g W=>(L 4=true->bB w W 34 1 (g 4) P.n (fun j => .string (qs (P.C j))))/\(L 5=true->g 5 = .agg #[.string ⟨#[48]⟩,g 4])/\(L 6=true->g 6 = .agg #[.int .i64 (P.n:Int),.slice none 0 0,.slice none 0 0,.slice none 0 0,.string ⟨#[48]⟩,g 4])/\(L 7=true->∃ pk,g 7 = .pointer (some ⟨pk,0,none⟩)/\w.heap.size<=pk/\aq W pk #[.int .i64 (P.n:Int),.slice none 0 0,.slice none 0 0,.slice none 0 0,.string ⟨#[48]⟩,g 4] 185)/\(L 8=true->g 8=g 7)) (S:=fun _=>False) ag ag ag (Mv.refl HX1.o (fun k h=>h.elim)) ?_ ?_ ?_ ?_ (fun gv_ w2 hm_ he_=>?_)
 ·exact fun g=>⟨fun h=>absurd h af,fun h=>absurd h af,fun h=>absurd h af,fun h=>absurd h af,fun h=>absurd h af⟩
 ·exact fun L g W W1 h e=>⟨fun a=>(h.1 a).ext e,h.2.1,h.2.2.1,fun a=>let ⟨pk,x,y,z⟩:=h.2.2.2.1 a;⟨pk,x,y,z.ext e⟩,h.2.2.2.2⟩
 ·intro i v L g W hi h;have n4_:i≠4:=fun e=>by subst e;exact absurd (show false=true from hi) af
  have n5_:i≠5:=fun e=>by subst e;exact absurd (show false=true from hi) af
  have n6_:i≠6:=fun e=>by subst e;exact absurd (show false=true from hi) af
  have n7_:i≠7:=fun e=>by subst e;exact absurd (show false=true from hi) af
  have n8_:i≠8:=fun e=>by subst e;exact absurd (show false=true from hi) af
  simp only[au n4_,av n4_,au n5_,av n5_,au n6_,av n6_,au n7_,av n7_,au n8_,av n8_];exact h
 ·skip
  refine RI 1 (.pointer (some ⟨w.heap.size,0,none⟩))<|J2 (fun hs_=>hs_.val 0) (fun hs_=>(hs_.mv.az HB0_1.o (fun h=>h)).cell 0 rfl)<|RI 1 (.pointer (some ⟨w.heap.size,0,none⟩))<|J2 (fun hs_=>hs_.val 2) (fun hs_=>(hs_.mv.az HB0_1.o (fun h=>h)).cell 2 rfl) ?_;refine aA.cons (fun L_ g_ A_ W_ hs_=>?_) ?_
  ·have q13_:=hs_.val 3;refine cI.aR fun K_ hK_=>?_;have n5_:=hs_.no 5 af ag;have n6_:=hs_.no 6 af ag;have n7_:=hs_.no 7 af ag;have n8_:=hs_.no 8 af ag;have HN_:=ai (And.intro n5_ (And.intro n6_ (And.intro n7_ n8_)));clear n5_ n6_ n7_ n8_;have HE_:=ai hs_.e;have HM_:=ai hs_.mv;go_simp;refine(Dv (g:=(fun j => .string (qs (P.C j)))) (HPO.o.ext hs_.mv.ext) (fun _ _=>rfl) hn).mono ?_;rintro e W9_ ⟨v_,rfl,e9_,ho_⟩;exact hK_.o v_ W9_ (HM_.o.trans e9_) (by simp only[aM,bu,au (show(4:Nat)≠5 by decide),av (show(4:Nat)≠5 by decide),au (show(4:Nat)≠6 by decide),av (show(4:Nat)≠6 by decide),au (show(4:Nat)≠7 by decide),av (show(4:Nat)≠7 by decide),au (show(4:Nat)≠8 by decide),av (show(4:Nat)≠8 by decide),HN_.o.1,HN_.o.2.1,HN_.o.2.2.1,HN_.o.2.2.2];exact⟨fun _=>E6 e9_ ho_ (HM_.o.ext.size),(fun h=>by cases h),(fun h=>by cases h),(fun h=>by cases h),(fun h=>by cases h)⟩)
  refine aA.cons (fun L_ g_ A_ W_ hs_=>?_) ?_
  ·have q14_:=hs_.aR 4;refine cI.aR fun K_ hK_=>?_;have y4_:=hs_.yes 4 ag;have n6_:=hs_.no 6 af ag;have n7_:=hs_.no 7 af ag;have n8_:=hs_.no 8 af ag;obtain⟨a_,n_,c_,es_⟩:=(hs_.e.1 y4_).iH;rw[es_] at q14_;have HES:=ai es_;clear es_;have HN_:=ai (And.intro y4_ (And.intro n6_ (And.intro n7_ n8_)));clear y4_ n6_ n7_ n8_;have he0_:=hs_.e;rw[HES.o] at he0_;have HE_:=ai he0_;have HM_:=ai hs_.mv;clear he0_;go_simp;exact hK_.o _ _ HM_.o (by simp only[aM,bu,au (show(5:Nat)≠4 by decide),av (show(5:Nat)≠4 by decide),au (show(5:Nat)≠6 by decide),av (show(5:Nat)≠6 by decide),au (show(5:Nat)≠7 by decide),av (show(5:Nat)≠7 by decide),au (show(5:Nat)≠8 by decide),av (show(5:Nat)≠8 by decide),HN_.o.1,HN_.o.2.1,HN_.o.2.2.1,HN_.o.2.2.2,HES.o];exact⟨fun _=>HE_.o.1 HN_.o.1,fun _=>by first|rfl|trivial,(fun h=>by cases h),(fun h=>by cases h),(fun h=>by cases h)⟩)
  refine aA.cons (fun L_ g_ A_ W_ hs_=>?_) ?_
  ·have q11_:=hs_.val 1;have q15_:=hs_.aR 5;refine cI.aR fun K_ hK_=>?_;have y4_:=hs_.yes 4 ag;have y5_:=hs_.yes 5 ag;have n7_:=hs_.no 7 af ag;have n8_:=hs_.no 8 af ag;have e5_:=hs_.e.2.1 y5_;obtain⟨a_,n_,c_,es_⟩:=(hs_.e.1 y4_).iH;rw[e5_,es_] at q15_;have HES:=ai es_;clear e5_ es_;have HN_:=ai (And.intro y4_ (And.intro y5_ (And.intro n7_ n8_)));clear y4_ y5_ n7_ n8_;have he0_:=hs_.e;rw[HES.o] at he0_;have HE_:=ai he0_;have HM_:=ai hs_.mv;clear he0_;go_simp;exact hK_.o _ _ HM_.o (by simp only[aM,bu,au (show(6:Nat)≠4 by decide),av (show(6:Nat)≠4 by decide),au (show(6:Nat)≠5 by decide),av (show(6:Nat)≠5 by decide),au (show(6:Nat)≠7 by decide),av (show(6:Nat)≠7 by decide),au (show(6:Nat)≠8 by decide),av (show(6:Nat)≠8 by decide),HN_.o.1,HN_.o.2.1,HN_.o.2.2.1,HN_.o.2.2.2,HES.o];exact⟨fun _=>HE_.o.1 HN_.o.1,fun _=>HE_.o.2.1 HN_.o.2.1,fun _=>by first|rfl|trivial,(fun h=>by cases h),(fun h=>by cases h)⟩)
  refine aA.cons (fun L_ g_ A_ W_ hs_=>?_) ?_
  ·have q16_:=hs_.aR 6;refine cI.aR fun K_ hK_=>?_;have y4_:=hs_.yes 4 ag;have y5_:=hs_.yes 5 ag;have y6_:=hs_.yes 6 ag;have n8_:=hs_.no 8 af ag;have e6_:=hs_.e.2.2.1 y6_;obtain⟨a_,n_,c_,es_⟩:=(hs_.e.1 y4_).iH;rw[e6_,es_] at q16_;have HES:=ai es_;clear e6_ es_;have HN_:=ai (And.intro y4_ (And.intro y5_ (And.intro y6_ n8_)));clear y4_ y5_ y6_ n8_;have he0_:=hs_.e;rw[HES.o] at he0_;have HE_:=ai he0_;have HM_:=ai hs_.mv;clear he0_;go_simp;exact hK_.o _ _ (HM_.o.alloc _) (by simp only[aM,bu,au (show(7:Nat)≠4 by decide),av (show(7:Nat)≠4 by decide),au (show(7:Nat)≠5 by decide),av (show(7:Nat)≠5 by decide),au (show(7:Nat)≠6 by decide),av (show(7:Nat)≠6 by decide),au (show(7:Nat)≠8 by decide),av (show(7:Nat)≠8 by decide),HN_.o.1,HN_.o.2.1,HN_.o.2.2.1,HN_.o.2.2.2,HES.o];exact⟨fun _=>(HE_.o.1 HN_.o.1).ext ((Ext.refl _).alloc _),fun _=>HE_.o.2.1 HN_.o.2.1,fun _=>HE_.o.2.2.1 HN_.o.2.2.1,fun _=>⟨_,rfl,HM_.o.ext.size,aq.new _ _ _⟩,(fun h=>by cases h)⟩)
  refine aA.cons (fun L_ g_ A_ W_ hs_=>?_) ?_
  ·have q17_:=hs_.aR 7;refine cI.aR fun K_ hK_=>?_;have y4_:=hs_.yes 4 ag;have y5_:=hs_.yes 5 ag;have y6_:=hs_.yes 6 ag;have y7_:=hs_.yes 7 ag;have HN_:=ai (And.intro y4_ (And.intro y5_ (And.intro y6_ y7_)));clear y4_ y5_ y6_ y7_;have HE_:=ai hs_.e;have HM_:=ai hs_.mv;go_simp;exact hK_.o _ _ HM_.o (by simp only[aM,bu,au (show(8:Nat)≠4 by decide),av (show(8:Nat)≠4 by decide),au (show(8:Nat)≠5 by decide),av (show(8:Nat)≠5 by decide),au (show(8:Nat)≠6 by decide),av (show(8:Nat)≠6 by decide),au (show(8:Nat)≠7 by decide),av (show(8:Nat)≠7 by decide),HN_.o.1,HN_.o.2.1,HN_.o.2.2.1,HN_.o.2.2.2];exact⟨fun _=>HE_.o.1 HN_.o.1,fun _=>HE_.o.2.1 HN_.o.2.1,fun _=>HE_.o.2.2.1 HN_.o.2.2.1,fun _=>HE_.o.2.2.2.1 HN_.o.2.2.2,fun _=>by first|rfl|trivial⟩)
  exact aA.nil
 simp only[dD,Ke.value,aX,Act.put,List.setIfInBounds_toArray,List.set_cons_zero,List.set_cons_succ,Nat.reduceAdd];have HX2:Hid (Ext w w2):=ai hm_.ext;have HB0_2:=ai (hm_.az HB0_1.o (fun h=>h));obtain⟨pk,e7_,gp_,bp_⟩:=he_.2.2.2.1 rfl;have e8_:=(he_.2.2.2.2 rfl).trans e7_;have ow_:=he_.1 rfl;rw[e8_,e7_];obtain⟨vw,ev_⟩:∃ v,gv_ 4=v:=⟨_,rfl⟩
 rw[ev_] at bp_ ow_ ⊢;have HBS_2:Hid (OS w P pk (.slice none 0 0) (.slice none 0 0) (.slice none 0 0) (.slice none 0 0) 0 (.slice none 0 0) 0 0 (.slice none 0 0) 0 vw (fun _=>(.slice none 0 0)) w2):=ai ⟨bp_,gp_,bB.nil _ _ _ _ _,bB.nil _ _ _ _ _,bB.nil _ _ _ _ _,ow_,fun i hi=>absurd hi (Nat.not_lt_zero i),fun k hk=>absurd hk iV,fun i hi=>absurd hi (Nat.not_lt_zero i),fun i i2 hi=>absurd hi (Nat.not_lt_zero i)⟩;clear e7_ e8_ gp_ bp_ ow_ ev_;clear hm_ he_;have c0_0:=HB0_2.o.cell 0 rfl;go_wp2_with fail;clear c0_0;go_loopw [20] (fun x0_ wx=>∃ i:Nat,x0_ = .int .i64 i/\i<=P.n/\Hid (Ext w wx/\aq wx (w.heap.size) (#[.int .i64 (P.n:Int),.slice ro P.m rcap,vc]) 32/\(∃ vo,OS w P pk (.slice none 0 0) (.slice none 0 0) vo (.slice none 0 0) 0 (.slice none 0 0) 0 0 vo i vw (fun _=>(.slice none 0 0)) wx))) (fun x0_ _=>P.n-(intOf x0_).toNat)
 case atStart=>exact⟨0,rfl,Nat.zero_le _,ai ⟨HX2.o,HB0_2.o,⟨_,HBS_2.o⟩⟩⟩
 case round =>
  rename World=>w3
  obtain⟨i,rfl,hki,HH⟩:=hrel;have HX3:=ai HH.o.1;have HB0_3:=ai HH.o.2.1;obtain⟨vo,a1_⟩:=HH.o.2.2;have HBS_3:=ai a1_;clear a1_;clear HH;by_cases hlt:i<P.n
  ·have hlt2:(i:Int)<((P.n:Nat):Int):=ae;have cS_3:=HBS_3.o.d3;go_wp2_with (
    at_builtin;refine wpList_plain rfl fun K_ hK_=>fL (X:=w) (H:=fun _ => .int .i64 (i:Int)) (ad:=⟨w3.heap.size,0,none⟩) (m:=1) (c:=1) (v:=vo) rfl rfl rfl vR AG rfl (HX3.o.alloc _) (HBS_3.o.alloc _).o (fun _=>af) (fun j hj=>by obtain rfl:j=0:=ae;exact eR (aq.nw (#[.int .i64 (i:Int)]) 3) rfl) (fun _ _=>rfl) (by unfold maxLen;omega) ae (fun a4_ n4_ c4_ w4 hA_=>hK_ _ _ ?_)
    have HX4:Hid (Ext w w4):=ai hA_.mv.ext;have HB0_4:Hid (aq w4 (w.heap.size) (#[.int .i64 (P.n:Int),.slice ro P.m rcap,vc]) 32):=ai (hA_.mv.az (HB0_3.o.alloc _) (HBS_3.o.o.aI HB0_3.o af));have HBS_4:Hid (OS w P pk (.slice none 0 0) (.slice none 0 0) vo (.slice none 0 0) 0 (.slice none 0 0) 0 0 (.slice a4_ n4_ c4_) (i+1) vw (fun _=>(.slice none 0 0)) w4):=ai ((HBS_3.o.alloc _).GN hA_ rfl);clear hA_ cS_3;have cS_3:=HBS_4.o.d3;have fS_3:=HBS_4.o.free 3
   )
   go_roundw
   case rel=>exact⟨i+1,by go_num,ae,ai ⟨(HX4.o.setCell (HBS_2.o.up) _),(HB0_4.o.other (a:=⟨pk,3,none⟩) _ (bA HB0_4.o HBS_4.o.tab af)),⟨_,(HBS_4.o.Hh (.slice a4_ n4_ c4_))⟩⟩⟩
   case measure=>simp[intOf];omega
  ·have hk2:i=P.n:=ae;have hge:¬ (i:Int)<((P.n:Nat):Int):=ae;have HBSx:Hid (OS w P pk (.slice none 0 0) (.slice none 0 0) vo (.slice none 0 0) 0 (.slice none 0 0) 0 0 vo P.n vw (fun _=>(.slice none 0 0)) w3):=ai (hk2▸HBS_3.o);clear hk2;have c0_1:=HB0_3.o.cell 1 rfl;go_wp2_with fail;clear c0_1;go_loopw [37] (fun x0_ wx=>∃ k:Nat,x0_ = .int .i64 k/\k<=P.m/\Hid (Ext w wx/\aq wx (w.heap.size) (#[.int .i64 (P.n:Int),.slice ro P.m rcap,vc]) 32/\(∃ vb vl vf,OS w P pk vb vl vo vb k vl k k vo P.n vw vf wx))) (fun x0_ _=>P.m-(intOf x0_).toNat)
   case atStart=>exact⟨0,rfl,Nat.zero_le _,ai ⟨HX3.o,HB0_3.o,⟨_,_,_,HBSx.o⟩⟩⟩
   case round =>
    rename World=>w4
    obtain⟨k,rfl,hkk,HH⟩:=hrel;have HX4:=ai HH.o.1;have HB0_4:=ai HH.o.2.1;obtain⟨vb,vl,vf,a1_⟩:=HH.o.2.2;have HBS_4:=ai a1_;clear a1_;clear HH;by_cases hlt:k<P.m
    ·have hlt2:(k:Int)<((P.m:Nat):Int):=ae;obtain⟨ra,o_,rfl,zr_,zs_⟩:=HRR.o k hlt;obtain⟨fo,fcap,ef_,_,_,hf_⟩:=HPF.o k hlt;rw[ef_] at zr_;have HCr:=ai zr_;have HCs:=ai zs_;have HFK:=ai hf_;clear zr_ zs_ hf_ ef_;have hltk:=hlt;have HLK:=ai hltk;clear hltk;have cr_o____k___2:=ax HX4.o (HCr.o);have cr_o____k___2___1:=ax HX4.o (HCs.o);go_upto_region 10 with fail
     have HNEBSB1:Hid (∀ q_,OD pk vb vl vo vw vf k q_->q_≠w4.heap.size):=ai (HBS_4.o.ne ah);refine aw (fun W=>Ext w W/\aq W (w.heap.size) (#[.int .i64 (P.n:Int),.slice (some ⟨ra,o_,none⟩) P.m rcap,vc]) 32/\OS w P pk vb vl vo vb k vl k k vo P.n vw vf W/\aq W (w4.heap.size) (#[.slice fo P.n fcap,.string (qs (P.B k))]) 97) ⟨(HX4.o.alloc _),(HB0_4.o.alloc _),(HBS_4.o.alloc _),(aq.nw (#[.slice fo P.n fcap,.string (qs (P.B k))]) 97)⟩ ?_;rintro w5 ⟨e5,bB0_5,bBS_5,bB1_5⟩;have HX5:=ai e5;have HB0_5:=ai bB0_5;have HBS_5:=ai bBS_5;have HB1_5:=ai bB1_5;have HGEB1:Hid (w.heap.size<=w4.heap.size):=ai (HX4.o.size);clear e5 bB0_5 bBS_5 bB1_5 cr_o____k___2 cr_o____k___2___1;have c1_1:=HB1_5.o.cell 1 rfl;go_upto_region 11 with fail
     have HNEBSB2:Hid (∀ q_,OD pk vb vl vo vw vf k q_->q_≠w5.heap.size):=ai (HBS_5.o.ne ah);refine aw (fun W=>Ext w W/\aq W (w.heap.size) (#[.int .i64 (P.n:Int),.slice (some ⟨ra,o_,none⟩) P.m rcap,vc]) 32/\OS w P pk vb vl vo vb k vl k k vo P.n vw vf W/\aq W (w4.heap.size) (#[.slice fo P.n fcap,.string (qs (P.B k))]) 97/\aq W (w5.heap.size) (#[.string (qs (P.B k)),.slice none 0 0]) 182) ⟨(HX5.o.alloc _),(HB0_5.o.alloc _),(HBS_5.o.alloc _),(HB1_5.o.alloc _),(aq.nw (#[.string (qs (P.B k)),.slice none 0 0]) 182)⟩ ?_;rintro w6 ⟨e6,bB0_6,bBS_6,bB1_6,bB2_6⟩;have HX6:=ai e6;have HB0_6:=ai bB0_6;have HBS_6:=ai bBS_6;have HB1_6:=ai bB1_6;have HB2_6:=ai bB2_6;have HGEB2:Hid (w.heap.size<=w5.heap.size):=ai (HX5.o.size);clear e6 bB0_6 bBS_6 bB1_6 bB2_6 c1_1;have c1_0:=HB1_6.o.cell 0 rfl;go_wp2_with fail;clear c1_0;have HOLT:Hid (∀ q,OD pk vb vl vo vw vf k q->q<w6.heap.size):=ai HBS_6.o.lt;have HB7L:Hid (w5.heap.size<w6.heap.size):=ai HB2_6.o.lt;go_wp2_with fail;go_loopw [48] (fun x0_ wx=>∃ j:Nat,x0_ = .int .i64 j/\j<=P.n/\Hid (Ext w wx/\aq wx (w.heap.size) (#[.int .i64 (P.n:Int),.slice (some ⟨ra,o_,none⟩) P.m rcap,vc]) 32/\OS w P pk vb vl vo vb k vl k k vo P.n vw vf wx/\aq wx (w4.heap.size) (#[.slice fo P.n fcap,.string (qs (P.B k))]) 97/\(∃ vr,aq wx (w5.heap.size) #[.string (qs (P.B k)),vr] 182/\bB w wx 34 1 vr j (fun j => .string (qs (-P.A k j)))/\(∀ q,ep vr q->w6.heap.size<=q)/\w6.heap.size<=wx.heap.size))) (fun x0_ _=>P.n-(intOf x0_).toNat)
     case atStart=>exact⟨0,rfl,Nat.zero_le _,ai ⟨HX6.o,HB0_6.o,HBS_6.o,HB1_6.o,⟨_,HB2_6.o,bB.nil _ _ _ _ _,fun q hq=>absurd hq iV,Nat.le_refl _⟩⟩⟩
     case round =>
      rename World=>w7
      obtain⟨j,rfl,hkj,HH⟩:=hrel;have HX7:=ai HH.o.1;have HB0_7:=ai HH.o.2.1;have HBS_7:=ai HH.o.2.2.1;have HB1_7:=ai HH.o.2.2.2.1;obtain⟨vr,a1_,a2_,a3_,a4_⟩:=HH.o.2.2.2.2;have HB2_7:=ai a1_;have HVR:=ai a2_;have HVG:=ai a3_;have HWL:=ai a4_;clear a1_ a2_ a3_ a4_;clear HH;by_cases hlt:j<P.n
      ·have hlt2:(j:Int)<((P.n:Nat):Int):=ae;obtain⟨fa,rfl,zf_⟩:=HFK.o j hlt;have HCf:=ai zf_;clear zf_;have cf_j:=ax HX7.o (HCf.o);go_wp2_with fail;clear cf_j;go_wp2_with fail;refine ay [.val (.pointer (some ⟨w5.heap.size,1,none⟩)),.val (vr),.val (.string (qs (P.A k j))),.val (.string (qs (-P.A k j))),.aR,.aR,.val (.pointer (some ⟨w5.heap.size,1,none⟩)),.aR] (fun L g W=>(L 4=true->∃ b,g 4 = .slice (some ⟨b,0,none⟩) 1 1/\(L 5=false->aq W b #[.string (qs (-P.A k j))] 34))/\(if L 5=true then bB w W 34 1 (g 5) (j+1) (fun j => .string (qs (-P.A k j)))/\∀ q,ep (g 5) q->w6.heap.size<=q else bB w W 34 1 vr j (fun j => .string (qs (-P.A k j))))/\(if L 7=true then aq W (w5.heap.size) #[.string (qs (P.B k)),g 5] 182 else aq W (w5.heap.size) #[.string (qs (P.B k)),vr] 182)) (S:=fun q=>ep vr q∨q=w5.heap.size) ag ag ag (Mv.refl HX7.o (fun q h=>h.elim (fun a=>(HVR.o.lt a).1) (fun e=>e▸HGEB2.o))) ?_ ?_ ?_ ?_ (fun gv_ w8 hm_ he_=>?_)
       ·exact fun g=>⟨fun h=>absurd h af,(by rw[if_neg af];exact HVR.o.ext (Ext.refl _).drew),(by rw[if_neg af];exact HB2_7.o.drew)⟩
       ·exact fun L g W W1 h e=>⟨fun a=>let ⟨b,x,y⟩:=h.1 a;⟨b,x,fun z=>(y z).ext e⟩,aZ h.2.1 (fun h=>⟨h.1.ext e,h.2⟩) (fun h=>h.ext e),aZ h.2.2 (fun h=>h.ext e) (fun h=>h.ext e)⟩
       ·intro i v L g W hi h;have n4_:i≠4:=fun e=>by subst e;exact absurd (show false=true from hi) af
        have n5_:i≠5:=fun e=>by subst e;exact absurd (show false=true from hi) af
        have n7_:i≠7:=fun e=>by subst e;exact absurd (show false=true from hi) af
        simp only[au n4_,av n4_,au n5_,av n5_,au n7_,av n7_];exact h
       ·skip
        refine RI 7 (.pointer (some ⟨w5.heap.size,0,none⟩)) ?_;refine RV (fun A_ hs_ K_ hK_=>?_) ?_;· have q52_:=hs_.val 0;have n7_:=hs_.no 7 af ag;have e_:=hs_.e.2.2;rw[if_neg (by rw[n7_];decide)] at e_;have c7_1:=e_.cell 1 rfl;clear n7_ e_;go_simp;exact bY hK_
        refine RI 9 (.string (qs (P.A k j)))<|K1 (fun hs_=>hs_.val 2) (fun _=>b8 (P.A k j) _ (HQA.o k HLK.o j hlt) ae) ?_;refine aA.cons (fun L_ g_ A_ W_ hs_=>?_) ?_
        ·have q55_:=hs_.val 3;refine cI.aR fun K_ hK_=>?_;have n5_:=hs_.no 5 af ag;have n7_:=hs_.no 7 af ag;have e_:=hs_.e;simp only[n5_,n7_,aj,if_false] at e_;have HN_:=ai (And.intro n5_ n7_);have HE_:=ai e_;have HM_:=ai hs_.mv;clear n5_ n7_ e_;go_simp;exact hK_.o _ _ (HM_.o.alloc _) (by simp only[aM,bu,au (show(4:Nat)≠5 by decide),av (show(4:Nat)≠5 by decide),au (show(4:Nat)≠7 by decide),av (show(4:Nat)≠7 by decide),HN_.o.1,HN_.o.2,aj,if_false,if_true];exact⟨fun _=>⟨_,rfl,fun _=>aq.new _ _ _⟩,HE_.o.2.1.ext ((Ext.refl _).alloc _),HE_.o.2.2.alloc _⟩)
        refine aA.cons (fun L_ g_ A_ W_ hs_=>?_) ?_
        ·have q53_:=hs_.val 1;have q56_:=hs_.aR 4;refine cI.aR fun K_ hK_=>?_;have n5_:=hs_.not;have n7_:=hs_.no 7 af ag;have y4_:=hs_.yes 4 ag;have e_:=hs_.e;simp only[y4_,n5_,n7_,aj,if_false] at e_;obtain⟨b_,g4_,hb_⟩:=e_.1 trivial;rw[g4_] at q56_;have HN_:=ai (And.intro y4_ n7_);have HE_:=ai e_.2;have HG_:=ai g4_;have HB_:=ai (hb_ trivial);have HM_:=ai hs_.mv;clear y4_ n5_ n7_ e_ g4_ hb_;refine eH (X:=w) (H:=(fun _ => .string (qs (-P.A k j)))) (ad:=⟨b_,0,none⟩) (m:=1) (c:=1) (v:=vr) rfl (by go_simp) (by go_simp) fZ gw rfl HM_.o.ext HE_.o.1 (fun _=>af) (fun i hi=>by obtain rfl:i=0:=ae;exact eR HB_.o rfl) (fun _ _=>rfl) (by unfold maxLen;omega) ae (fun v_ W9_ hA_=>?_);exact hK_.o v_ W9_ (HM_.o.comp hA_.mv (fun q h=>Or.inl (Or.inl h))) (by simp only[aM,bu,au (show(5:Nat)≠4 by decide),av (show(5:Nat)≠4 by decide),au (show(5:Nat)≠7 by decide),av (show(5:Nat)≠7 by decide),HN_.o.1,HN_.o.2,aj,if_false,if_true];exact⟨fun _=>⟨b_,HG_.o,(fun h=>by cases h)⟩,⟨Hz hA_.own rfl,fun q hq=>(hA_.new q hq).elim (HVG.o q) (fun e=>Nat.le_trans (Nat.le_trans HWL.o HM_.o.size) e)⟩,hA_.mv.az HE_.o.2 (HE_.o.1.aI HE_.o.2 af)⟩)
        refine RI 7 (.pointer (some ⟨w5.heap.size,0,none⟩)) ?_;refine aA.cons (fun L_ g_ A_ W_ hs_=>?_) ?_
        ·have q58_:=hs_.val 6;have q57_:=hs_.aR 5;refine cI.aR fun K_ hK_=>?_;have n7_:=hs_.not;have y4_:=hs_.yes 4 ag;have y5_:=hs_.yes 5 ag;have e_:=hs_.e;simp only[y5_,n7_,aj,if_false,if_true] at e_;obtain⟨a_,n_,cc_,es_⟩:=e_.2.1.1.iH;rw[es_] at e_ q57_;have HES:=ai es_;clear es_;have c_:=e_.2.2.cell 1 rfl;have f_:=e_.2.2.free 1;have HN_:=ai (And.intro y4_ y5_);have HE_:=ai e_;have HM_:=ai hs_.mv;clear y4_ y5_ n7_ e_;go_simp;exact hK_.o undef _ (HM_.o.setCell (Or.inl (Or.inr rfl)) _) (by simp only[aM,bu,au (show(7:Nat)≠4 by decide),av (show(7:Nat)≠4 by decide),au (show(7:Nat)≠5 by decide),av (show(7:Nat)≠5 by decide),HN_.o.1,HN_.o.2,HES.o,aj,if_false,if_true];exact⟨fun _=>let ⟨b,x,_⟩:=HE_.o.1 HN_.o.1;⟨b,x,(fun h=>by cases h)⟩,⟨HE_.o.2.1.1.other _ (HE_.o.2.1.1.aI HE_.o.2.2 af),HE_.o.2.1.2⟩,HE_.o.2.2.set 1 _⟩)
        exact aA.nil
       simp only[dD,Ke.value,aX,Act.put,List.setIfInBounds_toArray,List.set_cons_zero,List.set_cons_succ,Nat.reduceAdd];have HX8:Hid (Ext w w8):=ai hm_.ext;have HB0_8:=ai (hm_.az HB0_7.o (fun h=>h.elim (HVR.o.aI HB0_7.o af) (fun e=>(Nat.ne_of_lt HB0_5.o.lt) e)));have HBS_8:=ai (HBS_7.o.Iv hm_ (fun q hq h=>h.elim (fun a=>Nat.not_le_of_lt (HOLT.o q hq) (HVG.o q a)) (HNEBSB2.o q hq)));have HB1_8:=ai (hm_.az HB1_7.o (fun h=>h.elim (HVR.o.aI HB1_7.o af) (fun e=>(Nat.ne_of_lt HB1_5.o.lt) e)));have h_:=he_;simp only[if_true] at h_;obtain⟨vr2,ev_⟩:∃ v,gv_ 5=v:=⟨_,rfl⟩
       rw[ev_] at h_ ⊢;have HVR2:=ai h_.2.1.1;have HVG2:=ai h_.2.1.2;have HB2_8:=ai h_.2.2;have HWL2:Hid (w6.heap.size<=w8.heap.size):=ai (Nat.le_trans HWL.o hm_.size);clear h_ ev_;clear hm_ he_;go_wp2_with fail;go_roundw
       case rel=>exact⟨j+1,by go_num,ae,ai ⟨HX8.o,HB0_8.o,HBS_8.o,HB1_8.o,⟨_,HB2_8.o,HVR2.o,HVG2.o,HWL2.o⟩⟩⟩
       case measure=>simp[intOf];omega
      ·have hk2:j=P.n:=ae;have hge:¬ (j:Int)<((P.n:Nat):Int):=ae;go_wp2_with fail;have HVRn:Hid (bB w w7 34 1 vr P.n (fun j => .string (qs (-P.A k j)))):=ai (hk2▸HVR.o);obtain⟨vg,evg⟩:∃ vg:Nat->Value,vg=(fun i=>if i=k then vr else vf i):=⟨_,rfl⟩
       have HBSf:Hid (OS w P pk vb vl vo vb k vl k (k+1) vo P.n vw vg w7):=ai (evg▸HBS_7.o.HU (Nat.le_refl _) HVRn.o (fun q a c=>Nat.not_le_of_lt (HOLT.o q (Or.inr (Or.inr (Or.inr (Or.inr (Or.inl c)))))) (HVG.o q a)) (fun i hi q a c=>Nat.not_le_of_lt (HOLT.o q (Or.inr (Or.inr (Or.inr (Or.inr (Or.inr ⟨i,hi,c⟩)))))) (HVG.o q a)));have HVK:Hid (vg k=vr):=ai (by rw[evg];exact if_pos rfl);clear evg hk2;go_wp2_with fail;refine ay [.val (.pointer (some ⟨pk,0,none⟩)),.val (.pointer (some ⟨pk,0,none⟩)),.val (.pointer (some ⟨pk,0,none⟩)),.val (.pointer (some ⟨pk,0,none⟩)),.val (.pointer (some ⟨pk,1,none⟩)),.val (vb),.val (.pointer (some ⟨w.heap.size,0,none⟩)),.val (.int .i64 (P.n:Int)),.val (.int .i64 (k:Int)),.val (.int .i64 (P.n+k:Int)),.aR,.aR,.val (.pointer (some ⟨pk,0,none⟩)),.val (.pointer (some ⟨pk,0,none⟩)),.val (.pointer (some ⟨pk,2,none⟩)),.val (vl),.val (.agg #[.string (qs (P.B k)),vr]),.aR,.aR,.val (.pointer (some ⟨pk,0,none⟩)),.val (.pointer (some ⟨pk,1,none⟩)),.aR,.val (.pointer (some ⟨pk,0,none⟩)),.val (.pointer (some ⟨pk,2,none⟩)),.aR] (fun L g W=>(L 10=true->∃ b,g 10 = .slice (some ⟨b,0,none⟩) 1 1/\(L 11=false->aq W b #[.int .i64 ((P.n:Int)+(k:Int))] 3))/\(L 17=true->∃ b,g 17 = .slice (some ⟨b,0,none⟩) 1 1/\(L 18=false->aq W b #[.string (qs (P.B k)),vr] 182))/\OS w P pk (if L 21=true then g 11 else vb) (if L 24=true then g 18 else vl) vo (if L 11=true then g 11 else vb) (if L 11=true then k+1 else k) (if L 18=true then g 18 else vl) (if L 18=true then k+1 else k) (k+1) vo P.n vw vg W) (S:=fun q=>ep vb q∨ep vl q∨q=pk) ag ag ag (Mv.refl HX7.o (fun q h=>h.elim (fun a=>(HBSf.o.b.lt a).1) (fun h=>h.elim (fun a=>(HBSf.o.l.lt a).1) (fun e=>e▸HBSf.o.up)))) ?_ ?_ ?_ ?_ (fun gv_ w8 hm_ he_=>?_)
       ·exact fun g=>⟨fun h=>absurd h af,fun h=>absurd h af,HBSf.o.drew⟩
       ·exact fun L g W W1 h e=>⟨fun a=>let ⟨b,x,y⟩:=h.1 a;⟨b,x,fun z=>(y z).ext e⟩,fun a=>let ⟨b,x,y⟩:=h.2.1 a;⟨b,x,fun z=>(y z).ext e⟩,h.2.2.ext e⟩
       ·intro i v L g W hi h;have n10_:i≠10:=fun e=>by subst e;exact absurd (show false=true from hi) af
        have n11_:i≠11:=fun e=>by subst e;exact absurd (show false=true from hi) af
        have n17_:i≠17:=fun e=>by subst e;exact absurd (show false=true from hi) af
        have n18_:i≠18:=fun e=>by subst e;exact absurd (show false=true from hi) af
        have n21_:i≠21:=fun e=>by subst e;exact absurd (show false=true from hi) af
        have n24_:i≠24:=fun e=>by subst e;exact absurd (show false=true from hi) af
        simp only[au n10_,av n10_,au n11_,av n11_,au n17_,av n17_,au n18_,av n18_,au n21_,av n21_,au n24_,av n24_];exact h
       ·skip
        refine RI 3 (.pointer (some ⟨pk,0,none⟩))<|RI 3 (.pointer (some ⟨pk,0,none⟩))<|RI 3 (.pointer (some ⟨pk,0,none⟩))<|R1 2<|R1 3 ?_;refine RV (fun A_ hs_ K_ hK_=>?_) ?_;· have q64_:=hs_.val 4;have n_:=hs_.no 21 af ag;have cS_1:=hs_.e.2.2.d1;rw[if_neg (by rw[n_];decide)] at cS_1;clear n_;go_simp;exact bY hK_
        refine RI 1 (.pointer (some ⟨w.heap.size,0,none⟩))<|J2 (fun hs_=>hs_.val 6) (fun hs_=>(hs_.mv.az HB0_7.o (fun h=>h.elim (fun a=>HBSf.o.b.aI HB0_7.o af a) (fun h=>h.elim (fun a=>absurd a (HBSf.o.l.aI HB0_7.o af)) (fun e=>bA HB0_7.o HBSf.o.tab af e)))).cell 0 rfl)<|RI 5 (.int .i64 (k:Int)) ?_;refine RV (fun A_ hs_ K_ hK_=>?_) ?_;· have q67_:=hs_.val 7;have q68_:=hs_.val 8;go_simp;try go_bits;exact bY hK_
        refine aA.cons (fun L_ g_ A_ W_ hs_=>?_) ?_
        ·have q69_:=hs_.val 9;refine cI.aR fun K_ hK_=>?_;have n11_:=hs_.no 11 af ag;have n18_:=hs_.no 18 af ag;have n21_:=hs_.no 21 af ag;have n24_:=hs_.no 24 af ag;have n10_:=hs_.not;have e_:=hs_.e;simp only[n11_,n18_,n21_,n24_,n10_,aj,if_false,if_true] at e_;have HN_:=ai (And.intro n11_ (And.intro n18_ (And.intro n21_ (n24_))));clear n11_ n18_ n21_ n24_ n10_;have HE_:=ai e_;have HM_:=ai hs_.mv;clear e_;go_simp;exact hK_.o _ _ (HM_.o.alloc _) (by simp only[aM,bu,au (show(10:Nat)≠11 by decide),av (show(10:Nat)≠11 by decide),au (show(10:Nat)≠17 by decide),av (show(10:Nat)≠17 by decide),au (show(10:Nat)≠18 by decide),av (show(10:Nat)≠18 by decide),au (show(10:Nat)≠21 by decide),av (show(10:Nat)≠21 by decide),au (show(10:Nat)≠24 by decide),av (show(10:Nat)≠24 by decide),HN_.o.1,HN_.o.2.1,HN_.o.2.2.1,HN_.o.2.2.2,aj,if_false,if_true];exact⟨fun _=>⟨_,rfl,fun _=>aq.new _ _ _⟩,fun h=>let ⟨b,x,y⟩:=HE_.o.2.1 h;⟨b,x,fun z=>(y z).alloc _⟩,HE_.o.2.2.alloc _⟩)
        refine aA.cons (fun L_ g_ A_ W_ hs_=>?_) ?_
        ·have q65_:=hs_.val 5;have q70_:=hs_.aR 10;refine cI.aR fun K_ hK_=>?_;have y10_:=hs_.yes 10 ag;have n18_:=hs_.no 18 af ag;have n21_:=hs_.no 21 af ag;have n24_:=hs_.no 24 af ag;have n11_:=hs_.not;have e_:=hs_.e;simp only[y10_,n18_,n21_,n24_,n11_,aj,if_false,if_true] at e_;obtain⟨b_,g_eq,hb_⟩:=e_.1 trivial;rw[g_eq] at q70_;have HG_:=ai g_eq;have HB_:=ai (hb_ trivial);clear g_eq hb_;have HN_:=ai (And.intro y10_ (And.intro n18_ (And.intro n21_ (n24_))));clear y10_ n18_ n21_ n24_ n11_;have HE_:=ai e_;have HM_:=ai hs_.mv;clear e_;refine eH (X:=w) (H:=fun _ => .int .i64 ((P.n:Int)+(k:Int))) (ad:=⟨b_,0,none⟩) (m:=1) (c:=1) (v:=vb) rfl (by go_simp) (by go_simp) vR AG rfl HM_.o.ext HE_.o.2.2.b (fun _=>af) (fun i hi=>by obtain rfl:i=0:=ae;exact eR HB_.o rfl) (fun _ _=>rfl) (by unfold maxLen;omega) ae (fun v_ W9_ hA_=>?_);exact hK_.o v_ W9_ (HM_.o.comp hA_.mv (fun q h=>Or.inl (Or.inl h))) (by simp only[aM,bu,au (show(11:Nat)≠10 by decide),av (show(11:Nat)≠10 by decide),au (show(11:Nat)≠17 by decide),av (show(11:Nat)≠17 by decide),au (show(11:Nat)≠18 by decide),av (show(11:Nat)≠18 by decide),au (show(11:Nat)≠21 by decide),av (show(11:Nat)≠21 by decide),au (show(11:Nat)≠24 by decide),av (show(11:Nat)≠24 by decide),HN_.o.1,HN_.o.2.1,HN_.o.2.2.1,HN_.o.2.2.2,aj,if_false,if_true];exact⟨fun _=>⟨b_,HG_.o,(fun h=>by cases h)⟩,fun h=>let ⟨b,x,y⟩:=HE_.o.2.1 h;⟨b,x,fun z=>hA_.mv.az (y z) (HE_.o.2.2.b.aI (y z) af)⟩,HE_.o.2.2.GP hA_ rfl⟩)
        refine RI 3 (.pointer (some ⟨pk,0,none⟩))<|R1 12<|R1 13 ?_;refine RV (fun A_ hs_ K_ hK_=>?_) ?_;· have q74_:=hs_.val 14;have n_:=hs_.no 24 af ag;have cS_2:=hs_.e.2.2.d2;rw[if_neg (by rw[n_];decide)] at cS_2;clear n_;go_simp;exact bY hK_
        refine J3 (fun hs_=>hs_.is 7 (.pointer (some ⟨w5.heap.size,0,none⟩))) (fun hs_=>(hs_.mv.az HB2_7.o (fun h=>h.elim (fun a=>HBSf.o.b.aI HB2_7.o af a) (fun h=>h.elim (fun a=>absurd a (fun a=>(HNEBSB2.o) _ (Or.inr (Or.inr (Or.inl a))) rfl)) (fun e=>bA HB2_7.o HBSf.o.tab af e)))).cell 0 rfl) (fun hs_=>(hs_.mv.az HB2_7.o (fun h=>h.elim (fun a=>HBSf.o.b.aI HB2_7.o af a) (fun h=>h.elim (fun a=>absurd a (fun a=>(HNEBSB2.o) _ (Or.inr (Or.inr (Or.inl a))) rfl)) (fun e=>bA HB2_7.o HBSf.o.tab af e)))).cell 1 rfl) ?_;refine aA.cons (fun L_ g_ A_ W_ hs_=>?_) ?_
        ·have q76_:=hs_.val 16;refine cI.aR fun K_ hK_=>?_;have n18_:=hs_.no 18 af ag;have n21_:=hs_.no 21 af ag;have n24_:=hs_.no 24 af ag;have n17_:=hs_.not;have e_:=hs_.e;simp only[n18_,n21_,n24_,n17_,aj,if_false,if_true] at e_;have HN_:=ai (And.intro n18_ (And.intro n21_ (n24_)));clear n18_ n21_ n24_ n17_;have HE_:=ai e_;have HM_:=ai hs_.mv;clear e_;go_simp;exact hK_.o _ _ (HM_.o.alloc _) (by simp only[aM,bu,au (show(17:Nat)≠10 by decide),av (show(17:Nat)≠10 by decide),au (show(17:Nat)≠11 by decide),av (show(17:Nat)≠11 by decide),au (show(17:Nat)≠18 by decide),av (show(17:Nat)≠18 by decide),au (show(17:Nat)≠21 by decide),av (show(17:Nat)≠21 by decide),au (show(17:Nat)≠24 by decide),av (show(17:Nat)≠24 by decide),HN_.o.1,HN_.o.2.1,HN_.o.2.2,aj,if_false,if_true];exact⟨fun h=>let ⟨b,x,y⟩:=HE_.o.1 h;⟨b,x,fun z=>(y z).alloc _⟩,fun _=>⟨_,rfl,fun _=>aq.new _ _ _⟩,HE_.o.2.2.ext ((Ext.refl _).alloc _)⟩)
        refine aA.cons (fun L_ g_ A_ W_ hs_=>?_) ?_
        ·have q75_:=hs_.val 15;have q77_:=hs_.aR 17;refine cI.aR fun K_ hK_=>?_;have y10_:=hs_.yes 10 ag;have y11_:=hs_.yes 11 ag;have y17_:=hs_.yes 17 ag;have n21_:=hs_.no 21 af ag;have n24_:=hs_.no 24 af ag;have n18_:=hs_.not;have e_:=hs_.e;simp only[y10_,y11_,y17_,n21_,n24_,n18_,aj,if_false,if_true] at e_;obtain⟨b_,g_eq,hb_⟩:=e_.2.1 trivial;rw[g_eq] at q77_;have HG_:=ai g_eq;have HB_:=ai (hb_ trivial);clear g_eq hb_;have HN_:=ai (And.intro y10_ (And.intro y11_ (And.intro y17_ (And.intro n21_ (n24_)))));clear y10_ y11_ y17_ n21_ n24_ n18_;have HE_:=ai e_;have HM_:=ai hs_.mv;clear e_;refine eH (X:=w) (H:=fun i=>if i=0 then .string (qs (P.B k)) else vr) (ad:=⟨b_,0,none⟩) (m:=1) (c:=1) (v:=vl) rfl (by go_simp) (by go_simp) BS Fp rfl HM_.o.ext HE_.o.2.2.l (fun _=>af) (BU HB_.o) (BV rfl HVRn.o.one) (by unfold maxLen;omega) ae (fun v_ W9_ hA_=>?_);exact hK_.o v_ W9_ (HM_.o.comp hA_.mv (fun q h=>Or.inl (Or.inr (Or.inl h)))) (by simp only[aM,bu,au (show(18:Nat)≠10 by decide),av (show(18:Nat)≠10 by decide),au (show(18:Nat)≠11 by decide),av (show(18:Nat)≠11 by decide),au (show(18:Nat)≠17 by decide),av (show(18:Nat)≠17 by decide),au (show(18:Nat)≠21 by decide),av (show(18:Nat)≠21 by decide),au (show(18:Nat)≠24 by decide),av (show(18:Nat)≠24 by decide),HN_.o.1,HN_.o.2.1,HN_.o.2.2.1,HN_.o.2.2.2.1,HN_.o.2.2.2.2,aj,if_false,if_true];exact⟨fun _=>let ⟨b,x,_⟩:=HE_.o.1 trivial;⟨b,x,(fun h=>by cases h)⟩,fun _=>⟨b_,HG_.o,(fun h=>by cases h)⟩,HE_.o.2.2.GO hA_ (if_pos rfl) ((if_neg af).trans HVK.o.symm)⟩)
        refine R1 0<|R1 19 ?_;refine aA.cons (fun L_ g_ A_ W_ hs_=>?_) ?_
        ·have q80_:=hs_.val 20;have q71_:=hs_.aR 11;refine cI.aR fun K_ hK_=>?_;have y10_:=hs_.yes 10 ag;have y11_:=hs_.yes 11 ag;have y17_:=hs_.yes 17 ag;have y18_:=hs_.yes 18 ag;have n24_:=hs_.no 24 af ag;have n21_:=hs_.not;have e_:=hs_.e;simp only[y10_,y11_,y17_,y18_,n24_,n21_,aj,if_false,if_true] at e_;obtain⟨a_,n_,cc_,es_⟩:=e_.2.2.b.iH;rw[es_] at e_ q71_;have HES:=ai es_;clear es_;have c_:=e_.2.2.d1;have f_:=e_.2.2.free 1;have HN_:=ai (And.intro y10_ (And.intro y11_ (And.intro y17_ (And.intro y18_ (n24_)))));clear y10_ y11_ y17_ y18_ n24_ n21_;have HE_:=ai e_;have HM_:=ai hs_.mv;clear e_;go_simp;exact hK_.o undef _ (HM_.o.setCell (Or.inl (Or.inr (Or.inr rfl))) _) (by simp only[aM,bu,au (show(21:Nat)≠10 by decide),av (show(21:Nat)≠10 by decide),au (show(21:Nat)≠11 by decide),av (show(21:Nat)≠11 by decide),au (show(21:Nat)≠17 by decide),av (show(21:Nat)≠17 by decide),au (show(21:Nat)≠18 by decide),av (show(21:Nat)≠18 by decide),au (show(21:Nat)≠24 by decide),av (show(21:Nat)≠24 by decide),HN_.o.1,HN_.o.2.1,HN_.o.2.2.1,HN_.o.2.2.2.1,HN_.o.2.2.2.2,HES.o,aj,if_false,if_true];exact⟨fun _=>let ⟨b,x,_⟩:=HE_.o.1 trivial;⟨b,x,(fun h=>by cases h)⟩,fun _=>let ⟨b,x,_⟩:=HE_.o.2.1 trivial;⟨b,x,(fun h=>by cases h)⟩,HE_.o.2.2.Hj _⟩)
        refine R1 1<|R1 22 ?_;refine aA.cons (fun L_ g_ A_ W_ hs_=>?_) ?_
        ·have q82_:=hs_.val 23;have q78_:=hs_.aR 18;refine cI.aR fun K_ hK_=>?_;have y10_:=hs_.yes 10 ag;have y11_:=hs_.yes 11 ag;have y17_:=hs_.yes 17 ag;have y18_:=hs_.yes 18 ag;have y21_:=hs_.yes 21 ag;have n24_:=hs_.not;have e_:=hs_.e;simp only[y10_,y11_,y17_,y18_,y21_,n24_,aj,if_false,if_true] at e_;obtain⟨a_,n_,cc_,es_⟩:=e_.2.2.l.iH;rw[es_] at e_ q78_;have HES:=ai es_;clear es_;have c_:=e_.2.2.d2;have f_:=e_.2.2.free 2;have HN_:=ai (And.intro y10_ (And.intro y11_ (And.intro y17_ (And.intro y18_ (y21_)))));clear y10_ y11_ y17_ y18_ y21_ n24_;have HE_:=ai e_;have HM_:=ai hs_.mv;clear e_;go_simp;exact hK_.o undef _ (HM_.o.setCell (Or.inl (Or.inr (Or.inr rfl))) _) (by simp only[aM,bu,au (show(24:Nat)≠10 by decide),av (show(24:Nat)≠10 by decide),au (show(24:Nat)≠11 by decide),av (show(24:Nat)≠11 by decide),au (show(24:Nat)≠17 by decide),av (show(24:Nat)≠17 by decide),au (show(24:Nat)≠18 by decide),av (show(24:Nat)≠18 by decide),au (show(24:Nat)≠21 by decide),av (show(24:Nat)≠21 by decide),HN_.o.1,HN_.o.2.1,HN_.o.2.2.1,HN_.o.2.2.2.1,HN_.o.2.2.2.2,HES.o,aj,if_false,if_true];exact⟨fun _=>let ⟨b,x,_⟩:=HE_.o.1 trivial;⟨b,x,(fun h=>by cases h)⟩,fun _=>let ⟨b,x,_⟩:=HE_.o.2.1 trivial;⟨b,x,(fun h=>by cases h)⟩,HE_.o.2.2.Hi _⟩)
        exact aA.nil
       simp only[dD,Ke.value,aX,Act.put,List.setIfInBounds_toArray,List.set_cons_zero,List.set_cons_succ,Nat.reduceAdd];have HX8:Hid (Ext w w8):=ai hm_.ext;have HB0_8:=ai (hm_.az HB0_7.o (fun h=>h.elim (fun a=>HBSf.o.b.aI HB0_7.o af a) (fun h=>h.elim (fun a=>absurd a (HBSf.o.l.aI HB0_7.o af)) (fun e=>bA HB0_7.o HBSf.o.tab af e))));have HB1_8:=ai (hm_.az HB1_7.o (fun h=>h.elim (fun a=>HBSf.o.b.aI HB1_7.o af a) (fun h=>h.elim (fun a=>absurd a (HBSf.o.l.aI HB1_7.o af)) (fun e=>bA HB1_7.o HBSf.o.tab af e))));have HB2_8:=ai (hm_.az HB2_7.o (fun h=>h.elim (fun a=>HBSf.o.b.aI HB2_7.o af a) (fun h=>h.elim (fun a=>absurd a (fun a=>(HNEBSB2.o) _ (Or.inr (Or.inr (Or.inl a))) rfl)) (fun e=>bA HB2_7.o HBSf.o.tab af e))));have h_:=he_.2.2;simp only[if_true] at h_;have HBS_8:=ai h_;clear h_;clear hm_ he_;go_wp2_with fail;go_roundw
       case rel=>exact⟨k+1,by go_num,ae,ai ⟨HX8.o,HB0_8.o,⟨_,_,_,HBS_8.o⟩⟩⟩
       case measure=>simp[intOf];omega
    ·have hk2:k=P.m:=ae;have hge:¬ (k:Int)<((P.m:Nat):Int):=ae;go_wp2;go_ret;exact⟨pk,_,rfl,HX4.o,(OS.ta (hk2▸HBS_4.o))⟩
end Go.Proofs.YtmahadmefplbnaaGreatDoor
