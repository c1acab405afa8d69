/- Part 30. -/
import Derived.Test.YtmahadmefplbnaaGreatDoorQVLB
import Derived.Test.YtmahadmefplbnaaGreatDoorQVL29
set_option maxRecDepth 100000
set_option maxHeartbeats 2000000
open Go.Proofs.Tryz
set_option linter.unusedSimpArgs false
set_option linter.unusedVariables false
namespace Go.Proofs.YtmahadmefplbnaaGreatDoor
open Go Go.RowKit
def WV(f:Nat->Rat)(i:Nat):Bool:=decide (f i≠0)
def fi(is:Nat->Bool):Nat->Int
 | 0=>-1
 | k+1=>if 0<=fi is k then fi is k else if is k=true then(k:Int) else -1
theorem uI{is:Nat->Bool}:∀ {n:Nat},(∀ i,i<n->is i=false)->fi is n=-1
 | 0,_=>rfl
 | n+1,h=>by rw[fi,uI (fun i hi=>h i ae),if_neg af,if_neg (by rw[h n ae];decide)]
theorem GX{is:Nat->Bool}{k:Nat}:∀ {n:Nat},k<n->(∀ i,i<k->is i=false)->is k=true->fi is n=(k:Int)
 | 0,h,_,_=>ae
 | n+1,h,h1,h2=>by
  by_cases e:k=n
  ·subst e;rw[fi,uI h1,if_neg af,if_pos h2]
  ·have:=GX (n:=n) ae h1 h2;rw[fi,this,if_pos ae]
theorem r6(is:Nat->Bool):∀ n:Nat,(fi is n=-1/\∀ i,i<n->is i=false)∨∃ k:Nat,k<n/\fi is n=(k:Int)/\is k=true/\∀ i,i<k->is i=false
 | 0=>Or.inl ⟨rfl,fun i hi=>ae⟩
 | n+1=>by
  rcases r6 is n with⟨h1,h2⟩|⟨k,h1,h2,h3,h4⟩
  ·by_cases h:is n=true
   ·exact Or.inr ⟨n,ae,by rw[fi,h1,if_neg af,if_pos h],h,h2⟩
   ·exact Or.inl ⟨by rw[fi,h1,if_neg af,if_neg h],fun i hi=>by
     by_cases e:i=n
     ·rw[e];simpa using h
     ·exact h2 i ae⟩
  ·exact Or.inr ⟨k,ae,by rw[fi,h2,if_pos ae],h3,h4⟩
theorem Ji{is:Nat->Bool}{k:Nat}(h:∀ i,i<k->is i=false)(h2:is k=false)(i:Nat)(hi:i<k+1):is i=false:=by
 by_cases e:i=k
 ·rw[e];exact h2
 ·exact h i ae
theorem Wz(xb at_ fn eh:Nat)(cb:ByteArray)(fa:Addr)(x:Rat)(r:Bool)(w:World)(hB:ay w xb #[.int .i64 (at_:Int)] 3)(hc:w.cell? (fa.add at_)=some (.string (qs x)))(aP:at_<fn)(hr:decide (x≠0)=r):Calls prog 197 #[.agg #[.string cb,.slice (some fa) fn eh],.pointer (some ⟨xb,0,none⟩)] w (aZ w (.bool r)):=by
 have sy:=ai hB;have HC:=ai hc;have HR:=ai hr;clear hB hc hr;have fj:(at_:Int)<(fn:Int):=ae;go_enter func197,ntmps197;by_cases h:x≠0
 ·obtain rfl:r=true:=by rw[← HR.o];simpa using h
  have h1:=cu h;clear h;go_upto_region 1 with fail
  refine aB (fun W=>Ext w W/\ay W (xb) (#[.int .i64 (at_:Int)]) 3/\ay W (w.heap.size) (#[.string cb,.slice (some fa) fn eh]) 182) ⟨((Ext.refl w).alloc _),(sy.o.alloc _),(ay.nw (#[.string cb,.slice (some fa) fn eh]) 182)⟩ ?_;rintro w1 ⟨e1,oT,a7⟩;have aD:=ai e1;have xP:=ai oT;have ax:=ai a7;have aF:Hid (w.heap.size<=w.heap.size):=ai (Nat.le_refl _);clear e1 oT a7;have aI:=ax.o.cell 1 rfl;have Yr:=xP.o.cell (0) rfl;have gy:=aC aD.o (HC.o);go_wp2;go_ret;exact⟨rfl,aD.o⟩
 ·obtain rfl:r=false:=by rw[← HR.o];simpa using h
  have h1:=eR (Classical.not_not.1 h);clear h;go_upto_region 1 with fail
  refine aB (fun W=>Ext w W/\ay W (xb) (#[.int .i64 (at_:Int)]) 3/\ay W (w.heap.size) (#[.string cb,.slice (some fa) fn eh]) 182) ⟨((Ext.refl w).alloc _),(sy.o.alloc _),(ay.nw (#[.string cb,.slice (some fa) fn eh]) 182)⟩ ?_;rintro w1 ⟨e1,oT,a7⟩;have aD:=ai e1;have xP:=ai oT;have ax:=ai a7;have aF:Hid (w.heap.size<=w.heap.size):=ai (Nat.le_refl _);clear e1 oT a7;have aI:=ax.o.cell 1 rfl;have Yr:=xP.o.cell (0) rfl;have gy:=aC aD.o (HC.o);go_wp2;go_ret;exact⟨rfl,aD.o⟩
theorem Wx(xb at_ fn eh:Nat)(cb:ByteArray)(fa:Addr)(x:Rat)(r:Bool)(w:World)(hB:ay w xb #[.int .i64 (at_:Int)] 3)(hc:w.cell? (fa.add at_)=some (.string (qs x)))(aP:at_<fn)(hr:decide (x≠0)=r):Calls prog 199 #[.agg #[.string cb,.slice (some fa) fn eh],.pointer (some ⟨xb,0,none⟩)] w (aZ w (.bool r)):=by
 have sy:=ai hB;have HC:=ai hc;have HR:=ai hr;clear hB hc hr;have fj:(at_:Int)<(fn:Int):=ae;go_enter func199,ntmps199;by_cases h:x≠0
 ·obtain rfl:r=true:=by rw[← HR.o];simpa using h
  have h1:=cu h;clear h;go_upto_region 1 with fail
  refine aB (fun W=>Ext w W/\ay W (xb) (#[.int .i64 (at_:Int)]) 3/\ay W (w.heap.size) (#[.string cb,.slice (some fa) fn eh]) 182) ⟨((Ext.refl w).alloc _),(sy.o.alloc _),(ay.nw (#[.string cb,.slice (some fa) fn eh]) 182)⟩ ?_;rintro w1 ⟨e1,oT,a7⟩;have aD:=ai e1;have xP:=ai oT;have ax:=ai a7;have aF:Hid (w.heap.size<=w.heap.size):=ai (Nat.le_refl _);clear e1 oT a7;have aI:=ax.o.cell 1 rfl;have Yr:=xP.o.cell (0) rfl;have gy:=aC aD.o (HC.o);go_wp2;go_ret;exact⟨rfl,aD.o⟩
 ·obtain rfl:r=false:=by rw[← HR.o];simpa using h
  have h1:=eR (Classical.not_not.1 h);clear h;go_upto_region 1 with fail
  refine aB (fun W=>Ext w W/\ay W (xb) (#[.int .i64 (at_:Int)]) 3/\ay W (w.heap.size) (#[.string cb,.slice (some fa) fn eh]) 182) ⟨((Ext.refl w).alloc _),(sy.o.alloc _),(ay.nw (#[.string cb,.slice (some fa) fn eh]) 182)⟩ ?_;rintro w1 ⟨e1,oT,a7⟩;have aD:=ai e1;have xP:=ai oT;have ax:=ai a7;have aF:Hid (w.heap.size<=w.heap.size):=ai (Nat.le_refl _);clear e1 oT a7;have aI:=ax.o.cell 1 rfl;have Yr:=xP.o.cell (0) rfl;have gy:=aC aD.o (HC.o);go_wp2;go_ret;exact⟨rfl,aD.o⟩
theorem Uh(ao_:Option Addr)(n cap fn:Nat)(cp:Array Value)(a b:Nat->Value)(is:Nat->Bool)(w:World)(hl:∀ i,i<n->∃ la o,ao_=some ⟨la,o,none⟩/\w.cell? ⟨la,o+i*2,none⟩=some (a i)/\w.cell? ⟨la,o+i*2+1,none⟩=some (b i))(nU:∀ W,Ext w W->∀ k:Nat,k<n->Calls prog fn (#[.agg #[a k,b k]] ++ cp) W (aZ W (.bool (is k))))(hn:n<=1000000)(hcf:∀ a_ W,(callFunc fn a_).run prog W = .ok (.enter fn a_) W):Calls prog 196 #[.slice ao_ n cap,.func (.func fn) #[] cp] w (aZ w (.int .i64 (fi is n))):=by
 have HL:=ai hl;have zJ:=ai nU;clear hl nU;go_enter func196,ntmps196;go_wp2_with fail;go_loopw [8] (fun bY wx=>∃ k:Nat,bY = .int .i64 k/\k<=n/\Hid (∀ i,i<k->is i=false)/\Hid (Ext w wx)) (fun bY _=>n-(intOf bY).toNat)
 case atStart=>exact⟨0,rfl,Nat.zero_le _,ai (fun i hi=>absurd hi (Nat.not_lt_zero i)),ai (Ext.refl w)⟩
 case round =>
  rename World=>w1
  obtain⟨k,rfl,mg,ui,HH⟩:=hrel;have aD:=ai HH.o;clear HH;by_cases aP:k<n
  ·have fj:(k:Int)<((n:Nat):Int):=ae;obtain⟨la,o_,rfl,pW,q7⟩:=HL.o k aP;have VE:=ai pW;have HCm:=ai q7;clear pW q7;by_cases hi:is k=true
   ·have lI:=ai hi;clear hi;have lQ:=aC aD.o (VE.o);have iV:=aC aD.o (HCm.o);go_wp2_with fail;refine((lI.o▸zJ.o _ aD.o k aP)).mono ?_;rintro e w2 ⟨rfl,e2⟩;have aM:=ai (aD.o.trans e2);clear e2 lQ iV;go_wp2;go_ret;exact⟨by rw[GX aP ui.o lI.o];rfl,aM.o⟩
   ·have lI:Hid (is k=false):=ai (by simpa using hi);clear hi;have lQ:=aC aD.o (VE.o);have iV:=aC aD.o (HCm.o);go_wp2_with fail;refine((lI.o▸zJ.o _ aD.o k aP)).mono ?_;rintro e w2 ⟨rfl,e2⟩;have aM:=ai (aD.o.trans e2);clear e2 lQ iV;go_wp2_with fail;go_roundw
    case rel=>exact⟨k+1,by go_num,ae,ai (Ji ui.o lI.o),ai aM.o⟩
    case measure=>simp[intOf];omega
  ·have eY:k=n:=ae;have kx:¬ (k:Int)<((n:Nat):Int):=ae;go_wp2;go_ret;exact⟨by rw[uI (by rw[← eY];exact ui.o)];rfl,aD.o⟩
def YV(X:World)(P:LP)(p:Nat)(e:Ending)(w':World):Prop:=e = .returned (.tuple #[])/\Ext X w'/\∃ M',TA X P (P.rel P.first P.n) p M' w'
def Dp(T:bT)(k i:Nat):Bool:=WV (fun i=>T.f i k) i
def YU(P:LP)(T:bT)(k:Nat)(rr:Int):Prop:=(rr=-1/\P.rs T k P.m=-1)∨∃ r:Nat,rr=(r:Int)/\r<P.m/\T.f r k≠0/\P.rs T k r=-1
section
variable {P:LP} {T:bT} {k r d:Nat}
theorem rm:∀ {n:Nat},(∀ i,i<n->T.f i k≠0->¬ P.n<=T.b i)->P.rs T k n=-1
 | 0,_=>rfl
 | n+1,h=>by rw[LP.rs,rm (fun i hi=>h i ae),if_neg af,if_neg (fun h'=>h n ae h'.1 h'.2)]
theorem MN{n:Nat}(h:P.rs T k n=-1):∀ i,i<n->T.f i k≠0->¬ P.n<=T.b i:=fun i hi hf hb=>by
 rcases Iy P T k n with⟨_,h2⟩|⟨r,_,h2,_⟩
 ·exact hf (h2 i hi hb)
 ·omega
theorem Ws(hr:r<P.m)(hf:T.f r k≠0)(hb:P.n<=T.b r)(hs:P.rs T k r=-1):P.rs T k P.m=(r:Int):=by
 have h1:P.rs T k (r+1)=(r:Int):=by rw[LP.rs,hs,if_neg af,if_pos ⟨hf,hb⟩]
 have h2:∀ d,P.rs T k (r+1+d)=(r:Int):=fun d=>by
  induction d with
  | zero=>exact h1
  | succ d ih=>rw[← Nat.add_assoc,LP.rs,ih,if_pos ae]
 have:=h2 (P.m-(r+1));rwa[show r+1+(P.m-(r+1))=P.m by omega] at this
theorem FP(P:LP)(T:bT)(k:Nat):YU P T k (fi (Dp T k) P.m):=by
 rcases r6 (Dp T k) P.m with⟨h1,h2⟩|⟨r,h1,h2,h3,h4⟩
 ·exact Or.inl ⟨h1,rm (fun i hi hf=>absurd hf (by simpa[Dp,WV] using h2 i hi))⟩
 ·exact Or.inr ⟨r,h2,h1,by simpa[Dp,WV] using h3,rm (fun i hi hf=>absurd hf (by simpa[Dp,WV] using h4 i hi))⟩
theorem Sg(T:bT)(k r m:Nat):fi (fun i=>Dp T k (r+1+i)) (m-(r+1))=-1∨∃ d:Nat,fi (fun i=>Dp T k (r+1+i)) (m-(r+1))=(d:Int)/\(d<m-(r+1)/\T.f (r+1+d) k≠0/\∀ i,i<d->T.f (r+1+i) k=0):=by
 rcases r6 (fun i=>Dp T k (r+1+i)) (m-(r+1)) with⟨h1,h2⟩|⟨d,h1,h2,h3,h4⟩
 ·exact Or.inl h1
 ·exact Or.inr ⟨d,h2,h1,by simpa[Dp,WV] using h3,fun i hi=>by simpa[Dp,WV] using h4 i hi⟩
theorem Wt(hr:r<P.m)(hf:T.f r k≠0)(hs:P.rs T k r=-1)(hb:¬ P.n<=T.b r)(hx:fi (fun i=>Dp T k (r+1+i)) (P.m-(r+1))=-1):P.rs T k P.m=-1:=by
 refine rm (fun i hi Up=>?_);rcases r6 (fun i=>Dp T k (r+1+i)) (P.m-(r+1)) with⟨_,h2⟩|⟨d,_,h2,_⟩
 ·rcases Nat.lt_trichotomy i r with h|h|h
  ·exact MN hs i h Up
  ·rw[h];exact hb
  ·have:=h2 (i-(r+1)) ae;rw[show r+1+(i-(r+1))=i by omega] at this;exact absurd Up (by simpa[Dp,WV] using this)
 ·omega
theorem Ko(hr:r<P.m)(hf:T.f r k≠0)(hs:P.rs T k r=-1)(hb:¬ P.n<=T.b r)(hd:d<P.m-(r+1)/\T.f (r+1+d) k≠0/\∀ i,i<d->T.f (r+1+i) k=0):YU P T k ((r:Int)+(1+(d:Int))) :=
 Or.inr ⟨r+1+d,ae,ae,hd.2.1,rm (fun i hi Up=>by
  rcases Nat.lt_trichotomy i r with h|h|h
  ·exact MN hs i h Up
  ·rw[h];exact hb
  ·have:=hd.2.2 (i-(r+1)) ae;rw[show r+1+(i-(r+1))=i by omega] at this;exact absurd this Up)⟩
theorem yO(h:P.rs T k P.m=-1):P.CV T k=T:=by rw[LP.CV,if_pos ae]
theorem M3(h:P.rs T k P.m=(r:Int)):P.CV T k=T.bu r k:=by rw[LP.CV,if_neg ae,h,Int.toNat_natCast]
theorem Mb{n:Int}(h0:0<=n)(h1:n<=1000000000):wrap64 n=n:=by unfold wrap64;omega
theorem qck{m:Nat}(h:d<m-(r+1)):r+1+d<m:=ae
theorem qaB{m:Nat}(h:r+1+d<m)(hm:m<=1000):wrap64 (1+(d:Int))=1+(d:Int):=Mb ae ae
theorem qaA{m:Nat}(h:r+1+d<m)(hm:m<=1000):wrap64 ((r:Int)+(1+(d:Int)))=(r:Int)+(1+(d:Int)):=Mb ae ae
theorem MZ{m:Nat}(h:r+1+d<m):m-(intOf (.int .i64 ((r:Int)+(1+(d:Int))))).toNat<m-(intOf (.int .i64 (r:Int))).toNat:=by simp only[intOf];omega
theorem Kt:xD P P.first 0:=⟨P.zg,fun j hj _=>rfl,fun j hj=>ae⟩
end
theorem Cz{M:TM}{P:LP}{r:Nat}(hr:r<P.m):∃ ao,(∀ W,(Instr.slice 183 (M.vl P) (some (.int .i64 ((r:Int)+1))) none none).run prog W = .ok (.slice ao (P.m-(r+1)) (M.lc-(r+1))) W)/\∀ i,i<P.m-(r+1)->M.lc ≥ P.m->ao=some ⟨M.lb,(r+1)*2,none⟩:=by
 refine⟨if M.lc=r+1 then oa P.m M.lb M.lx else(oa P.m M.lb M.lx).map (·.add ((r+1)*2)),fun W=>?_,fun i hi hc=>?_⟩
 ·rw[TM.vl,run_slice_l W 183 _ _ _ ag .i64 ((r:Int)+1) ae ae];have hs:(sizeOf (prog.elem 183)).run prog W = .ok 2 W:=ag;have e:((r:Int)+1).toNat=r+1:=ae;rw[hs,e];simp only[Result.andThen,sliced]
 ·rw[if_neg ae,lL ae];simp[Addr.add]
section
variable {P:LP} {T:bT} {p k r xb:Nat} {M:TM} {w X:World} {ao:Option Addr}
theorem Mj{vb vl vo vw:Value}{vf:Nat->Value}(h:TR P T w p vb vl vo vw vf)(hk:k<P.n){i:Nat}(hi:i<P.m):∃ fa fn eh,vf i = .slice (some fa) fn eh/\k<fn/\w.cell? (fa.add k)=some (.string (qs (T.f i k))):=by
 obtain⟨fo,eh,e,_,_,hh⟩:=h.f i hi;obtain⟨fa,rfl,z⟩:=hh k hk;exact⟨fa,_,eh,e,hk,z⟩
theorem Wy {vb vl vo vw:Value} {vf:Nat->Value} {W:World} {i:Nat} (h:TR P T w p vb vl vo vw vf) (hk:k<P.n) (hi:i<P.m) (e:Ext w W) (hB:ay w xb #[.int .i64 (k:Int)] 3) :
    Calls prog 197 #[.agg #[.string (qs (T.c i)),vf i],.pointer (some ⟨xb,0,none⟩)] W (aZ W (.bool (Dp T k i))):=by
 obtain⟨fa,fn,eh,ev,h1,h2⟩:=Mj h hk hi;rw[ev];exact Wz xb k fn eh _ fa _ _ W (hB.ext e) (aC e h2) h1 rfl
theorem Ww {vb vl vo vw:Value} {vf:Nat->Value} {W:World} {i:Nat} (h:TR P T w p vb vl vo vw vf) (hk:k<P.n) (hi:i<P.m) (e:Ext w W) (hB:ay w xb #[.int .i64 (k:Int)] 3) :
    Calls prog 199 #[.agg #[.string (qs (T.c i)),vf i],.pointer (some ⟨xb,0,none⟩)] W (aZ W (.bool (Dp T k i))):=by
 obtain⟨fa,fn,eh,ev,h1,h2⟩:=Mj h hk hi;rw[ev];exact Wx xb k fn eh _ fa _ _ W (hB.ext e) (aC e h2) h1 rfl
theorem Xn (h:TA X P T p M w) (hB:ay w xb #[.int .i64 (k:Int)] 3) (hk:k<P.n) (hm:P.m<=1000) :
    Calls prog 196 #[M.vl P,.func (.func 197) #[] #[.pointer (some ⟨xb,0,none⟩)]] w (aZ w (.int .i64 (fi (Dp T k) P.m))):=by
 obtain⟨ao,cap,e,_,_,hh⟩:=h.tr.l;rw[e];exact Uh ao P.m cap _ _ (fun i => .string (qs (T.c i))) (M.vf P) _ w (fun i hi=>let ⟨lb,e1,e2,e3⟩:=hh i hi;⟨lb,0,e1,by rw[Nat.zero_add];exact e2,by rw[Nat.zero_add];exact e3⟩) (fun W e i hi=>by rw[Pw];exact Wy h.tr hk hi e hB) ae (fun _ _=>ag)
theorem NY (h:TA X P T p M w) (hB:ay w xb #[.int .i64 (k:Int)] 3) (hao:∀ i,i<P.m-(r+1)->M.lc ≥ P.m->ao=some ⟨M.lb,(r+1)*2,none⟩) (hr:r<P.m) (hk:k<P.n) (hm:P.m<=1000) :
    Calls prog 196 #[.slice ao (P.m-(r+1)) (M.lc-(r+1)),.func (.func 199) #[] #[.pointer (some ⟨xb,0,none⟩)]] w (aZ w (.int .i64 (fi (fun i=>Dp T k (r+1+i)) (P.m-(r+1))))):=by
 obtain⟨CL,b,hl⟩:=h.mem.LO ae;refine Uh ao (P.m-(r+1)) (M.lc-(r+1)) _ _ (fun i => .string (qs (T.c (r+1+i)))) (fun i=>M.vf P (r+1+i)) _ w (fun i hi=>⟨M.lb,(r+1)*2,hao i hi h.mem.caps.l.1,?_,?_⟩) (fun W e i hi=>by rw[Pw];exact Ww h.tr hk ae e hB) ae (fun _ _=>ag)
 ·rw[← Nat.add_mul];exact b.cell _ (hl _ ae).1
 ·rw[← Nat.add_mul];exact b.cell _ (hl _ ae).2
end
theorem Ti{P:LP}{p:Nat}{M:TM}{w X:World}(h:TA X P P.first p M w)(dX:0<P.n)(hn:P.n<=1000):Calls prog 195 #[M.vo P] w fun e w'=>∃ (cc k:Nat) (C:Array Value),e = .returned (.slice (some ⟨k,0,none⟩) P.n cc)/\Ext w w'/\w.heap.size<=k/\ay w' k C 3/\∀ j,j<P.n->C[j]?=some (.int .i64 (j:Int)):=by
 obtain⟨CO,hb,hc⟩:=h.mem.oth dX;rw[TM.vo,lL dX];refine(slices_Clone_int M.ob 0 P.n M.oc ((List.range P.n).map (fun j=>((j:Nat):Int))) w (by simp) ae (fun j hj=>?_)).mono ?_
 ·have XJ:j<P.n:=by simpa using hj
  rw[Nat.zero_add,hb.cell j (hc j XJ)];simp[LP.first,List.getD,XJ]
 ·rintro e w' ⟨v,rfl,ho,hv,hB⟩;rcases ho.2 with⟨rfl,_⟩|⟨g,cap,cur,rfl,hg,hh,h1,h2,h3,h4⟩
  ·exact absurd rfl hv
  ·refine⟨cap,g,cur,rfl,hB,hg,⟨hh⟩,fun j hj=>?_⟩;have e1:(cur.toList.take (P.n*1))[j]?=some (.int .i64 (j:Int)):=by rw[h4];simp[hj]
   rw[List.getElem?_take,if_pos ae] at e1;simpa using e1
theorem CU(P:LP)(p:Nat)(M:TM)(q:Nat)(X w:World)(g:Gd X)(hX:Ext X w)(hT:TA X P P.first p M w)(SZ:Vm P q)(hn:P.n<=1000)(hm:P.m<=1000)(jo:1<=q)(kn:q<=400)(dX:0<P.n):Calls prog 122 #[.pointer (some ⟨p,0,none⟩)] w (YV X P p):=by
 have HG:=ai g;have Qx:=ai hT;clear g hT;have zE:Hid (Mv X w (fun k=>X.heap.size<=k) w):=ai (Mv.refl hX (fun k h=>h));clear hX;go_enter func122,ntmps122;have ti:=Qx.o.c3;go_wp2_with fail;refine(Ti Qx.o dX hn).mono ?_;rintro e w1 ⟨cc,kc,CC,rfl,e1,g_,b_,c_⟩;have aD:=ai (zE.o.trans e1);have p8:=ai (Qx.o.ext e1);clear e1 ti;have qd7:=ai b_;have Cb:=ai c_;have qkP:Hid (w.heap.size<=kc):=ai g_;have qid:Hid (∀ k,M.S p P.m k->k≠kc):=ai (Qx.o.ne g_);clear b_ c_ g_;go_wp2_with fail;go_loopw [12] (fun bY wx=>∃ k:Nat,bY = .int .i64 k/\k<=P.n/\Hid (Mv X w (fun k=>X.heap.size<=k) wx/\ay wx (kc) (CC) 3/\(∃ M1,TA X P (P.rel P.first k) p M1 wx/\∀ q,M1.S p P.m q->q≠kc))) (fun bY _=>P.n-(intOf bY).toNat)
 case atStart=>exact⟨0,rfl,Nat.zero_le _,ai ⟨aD.o,qd7.o,⟨M,p8.o,qid.o⟩⟩⟩
 case round =>
  rename World=>w2
  obtain⟨k,rfl,mg,HH⟩:=hrel;have aM:=ai HH.o.1;have VO:=ai HH.o.2.1;obtain⟨M1,gC,gY⟩:=HH.o.2.2;obtain⟨T1,eT⟩:∃ T1,P.rel P.first k=T1:=⟨_,rfl⟩
  rw[eT] at gC;have EK:=ai eT;clear eT;have j0:=ai gC;have JK:=ai gY;clear gC gY;have HRI:Hid (xD P T1 k):=ai (EK.o▸xD.all Kt k mg);have Ht:=ai (SZ T1 HRI.o.inv);clear HH;by_cases aP:k<P.n
  ·have fj:(k:Int)<((P.n:Nat):Int):=ae;have L4:Hid (T1.o k=k):=ai (HRI.o.rest k aP (Nat.le_refl _));have y3:¬ P.n<=k:=ae;have HKN:=ai y3;have Ph:=VO.o.cell (k) (Cb.o k aP);go_upto_region 3 with fail
   have pK:Hid (∀ q_,M1.S p P.m q_->q_≠w2.heap.size):=ai (j0.o.ne ah);refine aB (fun W=>Mv X w (fun k=>X.heap.size<=k) W/\TA X P T1 p M1 W/\ay W (kc) (CC) 3/\ay W (w2.heap.size) (#[.int .i64 (k:Int)]) 3) ⟨(aM.o.alloc _),(j0.o.alloc _),(VO.o.alloc _),(ay.nw (#[.int .i64 (k:Int)]) 3)⟩ ?_;rintro w3 ⟨e3,U9,U4,cB⟩;have bA:=ai e3;have jZ:=ai U9;have qd6:=ai U4;have aA:=ai cB;have aF:Hid (w.heap.size<=w2.heap.size):=ai (aM.o.size);clear e3 U9 U4 cB Ph;have Pk:=jZ.o.c2;go_wp2_with fail;refine cto (Xn (jZ.o) (aA.o) aP hm) fun w4 e4=>?_
   have bO:=ai (bA.o.trans e4);have gV:=ai (jZ.o.ext e4);have qd5:=ai (qd6.o.ext e4);have aJ:=ai (aA.o.ext e4);clear e4 Pk;go_wp2_with fail;go_loopw [4] (fun bY wx=>∃ rr:Int,bY = .int .i64 rr/\Hid (YU P T1 k rr)/\Hid (Mv X w (fun k=>X.heap.size<=k) wx/\ay wx (w2.heap.size) (#[.int .i64 (k:Int)]) 3/\ay wx (kc) (CC) 3/\TA X P T1 p M1 wx)) (fun bY _=>P.m-(intOf bY).toNat)
   case atStart=>exact⟨_,rfl,ai (FP P T1 k),ai ⟨bO.o,aJ.o,qd5.o,gV.o⟩⟩
   case round =>
    rename World=>w5
    obtain⟨rr,rfl,JD,HH⟩:=hrel;have cX:=ai HH.o.1;have aT:=ai HH.o.2.1;have EV:=ai HH.o.2.2.1;have cw:=ai HH.o.2.2.2;clear HH;rcases JD.o with⟨rfl,hs⟩|⟨r,rfl,hr,hf,hs⟩
    ·have L0:=ai hs;clear hs;go_wp2_with fail;go_roundw
     case rel=>exact⟨k+1,by go_num,ae,ai ⟨cX.o,EV.o,⟨M1,by rw[LP.rel,EK.o,yO L0.o];exact cw.o,JK.o⟩⟩⟩
     case measure=>simp[intOf];omega
    ·have HR:=ai hr;have Ca:=ai hf;have L0:=ai hs;clear hr hf hs;have hr0:(0:Int)<=(r:Int):=ae;obtain⟨bo,bc,eb_,_,_,mF⟩:=cw.o.tr.b;obtain⟨ba,rfl,tw⟩:=mF r HR.o;have HEB:=ai eb_;have HCb:=ai tw;clear eb_ tw mF;have hr3:(r:Int)<(P.m:Int):=by have:=HR.o;omega
     by_cases h1:P.n<=T1.b r
     ·have gQ:=ai h1;clear h1;have qia:Hid (P.rs T1 k P.m=(r:Int)):=ai (Ws HR.o Ca.o gQ.out L0.o);have Hi:=(HEB.o▸cw.o.c1)
      have YC:=HCb.o;go_wp2_with fail;refine(Af (cw.o) (T1.b r) true (by have:=gQ.out;simp;omega)).mono ?_;rintro e _ ⟨rfl,rfl⟩;clear Hi YC;go_wp2_with fail;refine(Af (cw.o) k false (by have:=HKN.o;simp;omega)).mono ?_;rintro e _ ⟨rfl,rfl⟩;have aG:=aT.o.cell 0 rfl;go_wp2_with fail;refine(Az HG.o cX.o.ext cw.o HR.o aP Ca.o hn hm jo kn Ht.o).mono ?_;rintro e w6 ⟨rfl,m_,kz,g_,t_⟩;have gd:Hid (Mv X w (fun k=>X.heap.size<=k) w6):=ai (cX.o.comp m_ (fun k hk=>Or.inl (cw.o.up k hk)));have EU:Hid (ay w6 (kc) (CC) 3):=ai (m_.aH EV.o (fun hk=>JK.o _ hk rfl));have qdj:Hid (∀ k,(M1.vU r kz P.n).S p P.m k->k≠kc):=ai (TM.vT JK.o EV.o.lt g_);have bC:Hid (ay w6 (w2.heap.size) (#[.int .i64 (k:Int)]) 3):=ai (m_.aH aT.o (fun hk=>pK.o _ hk rfl));have JJ:Hid (∀ k,(M1.vU r kz P.n).S p P.m k->k≠w2.heap.size):=ai (TM.vT pK.o aT.o.lt g_);have je:=ai t_;clear m_ g_ t_ aG;go_wp2_with fail;go_roundw
      case rel=>exact⟨k+1,by go_num,ae,ai ⟨gd.o,EU.o,⟨(M1.vU r kz P.n),by rw[LP.rel,EK.o,M3 qia.o];exact je.o,qdj.o⟩⟩⟩
      case measure=>simp[intOf];omega
     ·have gQ:=ai h1;clear h1;have Hi:=(HEB.o▸cw.o.c1)
      have YC:=HCb.o;go_wp2_with fail;refine(Af (cw.o) (T1.b r) false (by have:=gQ.out;simp;omega)).mono ?_;rintro e _ ⟨rfl,rfl⟩;clear Hi YC;go_upto_region 5 with fail
      obtain⟨ao,tI,hao⟩:=Cz (M:=M1) (P:=P) (r:=r) HR.o;have HAO:=ai hao;clear hao;rcases Sg T1 k r P.m with hx|⟨d,hx,hd⟩
      ·have HNX:=ai hx;have qh8:Hid (P.rs T1 k P.m=-1):=ai (Wt HR.o Ca.o L0.o gQ.out hx);clear hx L0;have L0:=qh8;have Pk:=cw.o.c2;go_wp2_with fail;refine((HNX.o▸NY (cw.o) (aT.o) HAO.o HR.o aP hm)).mono ?_;rintro e w6 ⟨rfl,e6⟩;have gd:=ai (cX.o.trans e6);have je:=ai (cw.o.ext e6);have EU:=ai (EV.o.ext e6);have bC:=ai (aT.o.ext e6);clear e6 Pk;go_wp2_with fail;go_roundw
       case rel=>exact⟨k+1,by go_num,ae,ai ⟨gd.o,EU.o,⟨M1,by rw[LP.rel,EK.o,yO L0.o];exact je.o,JK.o⟩⟩⟩
       case measure=>simp[intOf];omega
      ·have HNX:=ai hx;have HD:=ai hd;have HDM:Hid (r+1+d<P.m):=ai (qck hd.1);have hd0:¬ (d:Int)<0:=Int.not_lt.2 (Int.natCast_nonneg d);have Gq:=qaB HDM.o hm;have LR:=qaA HDM.o hm;clear hx hd;have Pk:=cw.o.c2;go_wp2_with fail;refine((HNX.o▸NY (cw.o) (aT.o) HAO.o HR.o aP hm)).mono ?_;rintro e w6 ⟨rfl,e6⟩;have gd:=ai (cX.o.trans e6);have je:=ai (cw.o.ext e6);have EU:=ai (EV.o.ext e6);have bC:=ai (aT.o.ext e6);clear e6 Pk;go_wp2_with fail;go_roundw
       case rel=>exact⟨(r:Int)+(1+(d:Int)),by go_num,ai (Ko HR.o Ca.o L0.o gQ.out HD.o),ai ⟨gd.o,bC.o,EU.o,je.o⟩⟩
       case measure=>rw[LR];exact MZ HDM.o
  ·have eY:k=P.n:=ae;have kx:¬ (k:Int)<((P.n:Nat):Int):=ae;go_wp2
   first|go_end0|((try simp only[Exit.inBlock,Exit.then]);refine bodyPost_ret (results_none rfl _ _ _) rfl ?_)
   exact⟨rfl,aM.o.ext,M1,by rw[← eY,EK.o];exact j0.o⟩
def lg(P:LP)(vf:Nat->Value)(c:Nat):Value:=if c % 2=0 then .string (qs (P.B (c / 2))) else vf (c / 2)
theorem lg0{P:LP}{vf:Nat->Value}{i:Nat}:lg P vf (i*2) = .string (qs (P.B i)):=by
 have h1:i*2 % 2=0:=ae;have h2:i*2 / 2=i:=ae;rw[lg,if_pos h1,h2]
theorem lg1{P:LP}{vf:Nat->Value}{i:Nat}:lg P vf (i*2+1)=vf i:=by
 have h1:¬ (i*2+1) % 2=0:=ae;have h2:(i*2+1) / 2=i:=ae;rw[lg,if_neg h1,h2]
theorem zX{X w:World}{t:TypeId}{sz n:Nat}{v:Value}{G:Nat->Value}(h:cD X w t sz v n G){k:Nat}(hk:jf v k):∃ C,ay w k C t:=by
 rcases h with⟨h,_⟩|⟨k',cap,C,h1,h2,h3,_⟩
 ·rw[h] at hk;exact absurd hk pe
 ·rw[h1] at hk;rw[← dO.1 hk];exact⟨C,h3⟩
theorem cY{w:World}{t t':TypeId}{k k':Nat}{C C':Array Value}(h:ay w k C t)(h':ay w k' C' t')(ht:t≠t'):k≠k':=h.ne h' ht
theorem cD.apart{X w:World}{t t':TypeId}{sz sz' n n':Nat}{v v':Value}{G G':Nat->Value}(h:cD X w t sz v n G)(h':cD X w t' sz' v' n' G')(ht:t≠t'):∀ k,jf v k->¬ jf v' k:=fun k a b =>
 let ⟨_,x⟩:=zX h a;let ⟨_,y⟩:=zX h' b;cY x y ht rfl
theorem cD.other{X w:World}{t:TypeId}{sz n:Nat}{v:Value}{G:Nat->Value}(h:cD X w t sz v n G){a:Addr}(u:Value)(hk:¬ jf v a.block):cD X (w.setCell a u) t sz v n G:=by
 rcases h with h|⟨k,cap,C,h1,h2,h3,h4⟩
 ·exact Or.inl h
 ·exact Or.inr ⟨k,cap,C,h1,h2,h3.other u (fun e=>hk (by rw[h1];exact dO.2 e)),h4⟩
theorem cD.aU{X w:World}{t t':TypeId}{sz n:Nat}{v:Value}{G:Nat->Value}(h:cD X w t sz v n G){k:Nat}{C:Array Value}(hB:ay w k C t')(ht:t≠t'):¬ jf v k:=fun hk =>
 let ⟨_,x⟩:=zX h hk;cY x hB ht rfl
structure OS(X:World)(P:LP)(p:Nat)(c1 c2 c3 vb:Value)(nb:Nat)(vl:Value)(nl nf:Nat)(vo:Value)(no:Nat)(vw:Value)(vf:Nat->Value)(W:World):Prop where
 tab:ay W p #[.int .i64 (P.n:Int),c1,c2,c3,.string ⟨#[48]⟩,vw] 185
 up:X.heap.size<=p
 b:cD X W 3 1 vb nb (fun i => .int .i64 ((P.n:Int)+(i:Int)))
 l:cD X W 182 2 vl nl (lg P vf)
 o:cD X W 3 1 vo no (fun j => .int .i64 (j:Int))
 w:cD X W 34 1 vw P.n (fun j => .string (qs (P.C j)))
 f:∀ i,i<nf->cD X W 34 1 (vf i) P.n (fun j => .string (qs (-P.A i j)))
 bo:∀ k,jf vb k->¬ jf vo k
 fw:∀ i,i<nf->∀ k,jf (vf i) k->¬ jf vw k
 ff:∀ i i',i<nf->i'<nf->i≠i'->∀ k,jf (vf i) k->¬ jf (vf i') k
def OD(p:Nat)(vb vl vo vw:Value)(vf:Nat->Value)(nf k:Nat):Prop:=k=p∨jf vb k∨jf vl k∨jf vo k∨jf vw k∨∃ i,i<nf/\jf (vf i) k
section
variable {X W W':World} {P:LP} {p nb nl nf no:Nat} {c1 c2 c3 vb vl vo vw v':Value} {vf:Nat->Value} {H:Nat->Value}
theorem OS.map(h:OS X P p c1 c2 c3 vb nb vl nl nf vo no vw vf W)(ht:∀ C,ay W p C 185->ay W' p C 185)(hk:∀ k C t,t≠185->ay W k C t->ay W' k C t):OS X P p c1 c2 c3 vb nb vl nl nf vo no vw vf W':=by
 have m:∀ {t:TypeId} {sz n:Nat} {v:Value} {G:Nat->Value},t≠185->cD X W t sz v n G->cD X W' t sz v n G:=fun ht h=>by
  rcases h with h|⟨k,cap,C,h1,h2,h3,h4⟩
  ·exact Or.inl h
  ·exact Or.inr ⟨k,cap,C,h1,h2,hk _ _ _ ht h3,h4⟩
 exact⟨ht _ h.tab,h.up,m af h.b,m af h.l,m af h.o,m af h.w,fun i hi=>m af (h.f i hi),h.bo,h.fw,h.ff⟩
theorem OS.ext(h:OS X P p c1 c2 c3 vb nb vl nl nf vo no vw vf W)(e:Ext W W'):OS X P p c1 c2 c3 vb nb vl nl nf vo no vw vf W':=h.map (fun _ b=>b.ext e) (fun _ _ _ _ b=>b.ext e)
theorem OS.mv {Y:World} {S:Nat->Prop} (h:OS X P p c1 c2 c3 vb nb vl nl nf vo no vw vf W) (m:Mv Y W S W') (h0:¬ S p) (h1:∀ k,jf vb k->¬ S k) (h2:∀ k,jf vl k->¬ S k) (h3:∀ k,jf vo k->¬ S k) (h4:∀ k,jf vw k->¬ S k)
    (h5:∀ i,i<nf->∀ k,jf (vf i) k->¬ S k):OS X P p c1 c2 c3 vb nb vl nl nf vo no vw vf W' :=
 ⟨m.aH h.tab h0,h.up,h.b.mv m h1,h.l.mv m h2,h.o.mv m h3,h.w.mv m h4,fun i hi=>(h.f i hi).mv m (h5 i hi),h.bo,h.fw,h.ff⟩
theorem OS.alloc(h:OS X P p c1 c2 c3 vb nb vl nl nf vo no vw vf W)(o:Obj):OS X P p c1 c2 c3 vb nb vl nl nf vo no vw vf (W.alloc o):=h.ext ((Ext.refl _).alloc o)
theorem OS.drew(h:OS X P p c1 c2 c3 vb nb vl nl nf vo no vw vf W):OS X P p c1 c2 c3 vb nb vl nl nf vo no vw vf W.drew:=h.ext (Ext.refl _).drew
theorem OS.lt(h:OS X P p c1 c2 c3 vb nb vl nl nf vo no vw vf W):∀ k,OD p vb vl vo vw vf nf k->k<W.heap.size:=fun k hk=>by
 rcases hk with rfl|hk|hk|hk|hk|⟨i,hi,hk⟩
 ·exact h.tab.lt
 ·exact(h.b.lt hk).2
 ·exact(h.l.lt hk).2
 ·exact(h.o.lt hk).2
 ·exact(h.w.lt hk).2
 ·exact((h.f i hi).lt hk).2
theorem OS.ne(h:OS X P p c1 c2 c3 vb nb vl nl nf vo no vw vf W){b:Nat}(hb:W.heap.size<=b):∀ k,OD p vb vl vo vw vf nf k->k≠b:=fun k hk e=>by have:=h.lt k hk;omega
theorem OS.mvd{Y:World}{S:Nat->Prop}(h:OS X P p c1 c2 c3 vb nb vl nl nf vo no vw vf W)(m:Mv Y W S W')(hs:∀ k,OD p vb vl vo vw vf nf k->¬ S k):OS X P p c1 c2 c3 vb nb vl nl nf vo no vw vf W' :=
 h.mv m (hs _ (Or.inl rfl)) (fun k hk=>hs k (Or.inr (Or.inl hk))) (fun k hk=>hs k (Or.inr (Or.inr (Or.inl hk)))) (fun k hk=>hs k (Or.inr (Or.inr (Or.inr (Or.inl hk))))) (fun k hk=>hs k (Or.inr (Or.inr (Or.inr (Or.inr (Or.inl hk)))))) (fun i hi k hk=>hs k (Or.inr (Or.inr (Or.inr (Or.inr (Or.inr ⟨i,hi,hk⟩))))))
theorem OS.other(h:OS X P p c1 c2 c3 vb nb vl nl nf vo no vw vf W){a:Addr}(u:Value)(hk:∀ k,OD p vb vl vo vw vf nf k->k≠a.block):OS X P p c1 c2 c3 vb nb vl nl nf vo no vw vf (W.setCell a u) :=
 ⟨h.tab.other u (hk _ (Or.inl rfl)),h.up,h.b.other u (fun e=>hk _ (Or.inr (Or.inl e)) rfl),h.l.other u (fun e=>hk _ (Or.inr (Or.inr (Or.inl e))) rfl),h.o.other u (fun e=>hk _ (Or.inr (Or.inr (Or.inr (Or.inl e)))) rfl),
  h.w.other u (fun e=>hk _ (Or.inr (Or.inr (Or.inr (Or.inr (Or.inl e))))) rfl),fun i hi=>(h.f i hi).other u (fun e=>hk _ (Or.inr (Or.inr (Or.inr (Or.inr (Or.inr ⟨i,hi,e⟩))))) rfl),h.bo,h.fw,h.ff⟩
theorem OS.qcR(h:OS X P p c1 c2 c3 vb nb vl nl nf vo no vw vf W)(a:App X W 3 1 vb nb 1 (fun i => .int .i64 ((P.n:Int)+(i:Int))) H v' W')(hH:H 0 = .int .i64 ((P.n:Int)+(nb:Int))):OS X P p c1 c2 c3 v' (nb+1) vl nl nf vo no vw vf W' where
 tab:=a.mv.aH h.tab (h.b.aU h.tab af)
 up:=h.up
 b:=a.own.congr (fun i hi=>by
  by_cases e:i<nb
  ·rw[jF ae]
  ·have:i=nb:=ae;subst this;rw[gM ae,show i-i*1=0 by omega,hH])
 l:=h.l.mv a.mv (fun k hk hb=>(h.l.apart h.b af) k hk hb)
 o:=h.o.mv a.mv (fun k hk hb=>h.bo k hb hk)
 w:=h.w.mv a.mv (fun k hk hb=>(h.w.apart h.b af) k hk hb)
 f:=fun i hi=>(h.f i hi).mv a.mv (fun k hk hb=>((h.f i hi).apart h.b af) k hk hb)
 bo:=fun k hk ho=>(a.new k hk).elim (fun hb=>h.bo k hb ho) (fun hn=>by have:=(h.o.lt ho).2;omega)
 fw:=h.fw
 ff:=h.ff
theorem OS.qcQ(h:OS X P p c1 c2 c3 vb nb vl nl nf vo no vw vf W)(a:App X W 182 2 vl nl 1 (lg P vf) H v' W')(h0:H 0 = .string (qs (P.B nl)))(h1:H 1=vf nl):OS X P p c1 c2 c3 vb nb v' (nl+1) nf vo no vw vf W' where
 tab:=a.mv.aH h.tab (h.l.aU h.tab af)
 up:=h.up
 b:=h.b.mv a.mv (fun k hk hb=>(h.b.apart h.l af) k hk hb)
 l:=a.own.congr (fun i hi=>by
  by_cases e:i<nl*2
  ·rw[jF e]
  ·rw[gM e];rcases (by omega:i=nl*2∨i=nl*2+1) with e|e
   ·rw[e,Nat.sub_self,h0,lg0]
   ·rw[e,show nl*2+1-nl*2=1 by omega,h1,lg1])
 o:=h.o.mv a.mv (fun k hk hb=>(h.o.apart h.l af) k hk hb)
 w:=h.w.mv a.mv (fun k hk hb=>(h.w.apart h.l af) k hk hb)
 f:=fun i hi=>(h.f i hi).mv a.mv (fun k hk hb=>((h.f i hi).apart h.l af) k hk hb)
 bo:=h.bo
 fw:=h.fw
 ff:=h.ff
theorem OS.st{xq xp pD:Value}(h:OS X P p c1 c2 c3 vb nb vl nl nf vo no vw vf W)(hm:∀ k C t,k≠p->ay W k C t->ay W' k C t)(hB:ay W' p #[.int .i64 (P.n:Int),xq,xp,pD,.string ⟨#[48]⟩,vw] 185):OS X P p xq xp pD vb nb vl nl nf vo no vw vf W':=by
 have m:∀ {t:TypeId} {sz n:Nat} {v:Value} {G:Nat->Value},t≠185->cD X W t sz v n G->cD X W' t sz v n G:=fun ht h'=>by
  rcases h' with h'|⟨k,cap,C,h1,h2,h3,h4⟩
  ·exact Or.inl h'
  ·exact Or.inr ⟨k,cap,C,h1,h2,hm _ _ _ (cY h3 h.tab ht) h3,h4⟩
 exact⟨hB,h.up,m af h.b,m af h.l,m af h.o,m af h.w,fun i hi=>m af (h.f i hi),h.bo,h.fw,h.ff⟩
theorem Wn{a b c d e f v:Value}(i:Nat)(r:Array Value)(h:(#[a,b,c,d,e,f]:Array Value).setIfInBounds i v=r){k:Nat}{ty:TypeId}(hB:ay W k #[a,b,c,d,e,f] ty):ay (W.setCell ⟨k,i,none⟩ v) k r ty:=h▸hB.set i v
theorem OS.qfG(h:OS X P p c1 c2 c3 vb nb vl nl nf vo no vw vf W)(v:Value):OS X P p v c2 c3 vb nb vl nl nf vo no vw vf (W.setCell ⟨p,1,none⟩ v):=h.st (fun k C t hk b=>b.other (a:=⟨p,1,none⟩) v hk) (Wn 1 _ rfl h.tab)
theorem OS.qfF(h:OS X P p c1 c2 c3 vb nb vl nl nf vo no vw vf W)(v:Value):OS X P p c1 v c3 vb nb vl nl nf vo no vw vf (W.setCell ⟨p,2,none⟩ v):=h.st (fun k C t hk b=>b.other (a:=⟨p,2,none⟩) v hk) (Wn 2 _ rfl h.tab)
theorem OS.qfE(h:OS X P p c1 c2 c3 vb nb vl nl nf vo no vw vf W)(v:Value):OS X P p c1 c2 v vb nb vl nl nf vo no vw vf (W.setCell ⟨p,3,none⟩ v):=h.st (fun k C t hk b=>b.other (a:=⟨p,3,none⟩) v hk) (Wn 3 _ rfl h.tab)
theorem OS.d0(h:OS X P p c1 c2 c3 vb nb vl nl nf vo no vw vf W):W.cell? ⟨p,0,none⟩=some (.int .i64 (P.n:Int)):=h.tab.cell 0 rfl
theorem OS.d1(h:OS X P p c1 c2 c3 vb nb vl nl nf vo no vw vf W):W.cell? ⟨p,1,none⟩=some c1:=h.tab.cell 1 rfl
theorem OS.d2(h:OS X P p c1 c2 c3 vb nb vl nl nf vo no vw vf W):W.cell? ⟨p,2,none⟩=some c2:=h.tab.cell 2 rfl
theorem OS.d3(h:OS X P p c1 c2 c3 vb nb vl nl nf vo no vw vf W):W.cell? ⟨p,3,none⟩=some c3:=h.tab.cell 3 rfl
theorem OS.free(h:OS X P p c1 c2 c3 vb nb vl nl nf vo no vw vf W)(i:Nat):W.frozen? ⟨p,i,none⟩=false:=h.tab.free i
theorem OS.qcP(h:OS X P p c1 c2 c3 (.slice none 0 0) nb vl nl nf vo no vw vf W)(a:App X W 3 1 vo no 1 (fun j => .int .i64 (j:Int)) H v' W')(hH:H 0 = .int .i64 (no:Int)):OS X P p c1 c2 c3 (.slice none 0 0) nb vl nl nf v' (no+1) vw vf W' where
 tab:=a.mv.aH h.tab (h.o.aU h.tab af)
 up:=h.up
 b:=h.b.mv a.mv (fun k hk=>absurd hk pe)
 l:=h.l.mv a.mv (fun k hk hb=>(h.l.apart h.o af) k hk hb)
 o:=a.own.congr (fun i hi=>by
  by_cases e:i<no
  ·rw[jF ae]
  ·have:i=no:=ae;subst this;rw[gM ae,show i-i*1=0 by omega,hH])
 w:=h.w.mv a.mv (fun k hk hb=>(h.w.apart h.o af) k hk hb)
 f:=fun i hi=>(h.f i hi).mv a.mv (fun k hk hb=>((h.f i hi).apart h.o af) k hk hb)
 bo:=fun k hk=>absurd hk pe
 fw:=h.fw
 ff:=h.ff
theorem OD.qcR(ha:∀ k,jf v' k->jf vb k∨W.heap.size<=k){k:Nat}(h:OD p v' vl vo vw vf nf k):OD p vb vl vo vw vf nf k∨W.heap.size<=k:=by
 rcases h with h|h|h
 ·exact Or.inl (Or.inl h)
 ·exact(ha k h).imp (fun h=>Or.inr (Or.inl h)) id
 ·exact Or.inl (Or.inr (Or.inr h))
theorem OD.qcQ(ha:∀ k,jf v' k->jf vl k∨W.heap.size<=k){k:Nat}(h:OD p vb v' vo vw vf nf k):OD p vb vl vo vw vf nf k∨W.heap.size<=k:=by
 rcases h with h|h|h|h
 ·exact Or.inl (Or.inl h)
 ·exact Or.inl (Or.inr (Or.inl h))
 ·exact(ha k h).imp (fun h=>Or.inr (Or.inr (Or.inl h))) id
 ·exact Or.inl (Or.inr (Or.inr (Or.inr h)))
theorem OD.qcP(ha:∀ k,jf v' k->jf vo k∨W.heap.size<=k){k:Nat}(h:OD p vb vl v' vw vf nf k):OD p vb vl vo vw vf nf k∨W.heap.size<=k:=by
 rcases h with h|h|h|h|h
 ·exact Or.inl (Or.inl h)
 ·exact Or.inl (Or.inr (Or.inl h))
 ·exact Or.inl (Or.inr (Or.inr (Or.inl h)))
 ·exact(ha k h).imp (fun h=>Or.inr (Or.inr (Or.inr (Or.inl h)))) id
 ·exact Or.inl (Or.inr (Or.inr (Or.inr (Or.inr h))))
theorem OS.qhG (h : OS X P p c1 c2 c3 vb nb vl nl nf vo no vw vf W) (hn : nl <= nf) {vr : Value} (hr : cD X W 34 1 vr P.n (fun j => .string (qs (-P.A nf j)))) (hw : ∀ k, jf vr k -> ¬ jf vw k) (hf : ∀ i, i < nf -> ∀ k, jf vr k -> ¬ jf (vf i) k) :
    OS X P p c1 c2 c3 vb nb vl nl (nf+1) vo no vw (fun i=>if i=nf then vr else vf i) W where
 tab:=h.tab
 up:=h.up
 b:=h.b
 l:=h.l.congr (fun i hi=>by
  by_cases e:i % 2=0
  ·rw[lg,lg,if_pos e,if_pos e]
  ·rw[lg,lg,if_neg e,if_neg e,if_neg ae])
 o:=h.o
 w:=h.w
 f:=fun i hi=>by
  by_cases e:i=nf
  ·subst e;simp only[if_true];exact hr
  ·simp only[if_neg e];exact h.f i ae
 bo:=h.bo
 fw:=fun i hi k hk=>by
  by_cases e:i=nf
  ·simp only[if_pos e] at hk;exact hw k hk
  ·simp only[if_neg e] at hk;exact h.fw i ae k hk
 ff:=fun i i' hi BZ c8 k hk KW=>by
  by_cases e:i=nf
  ·have e':¬ i'=nf:=ae;simp only[if_pos e] at hk;simp only[if_neg e'] at KW;exact hf i' ae k hk KW
  ·simp only[if_neg e] at hk;by_cases e':i'=nf
   ·simp only[if_pos e'] at KW;exact hf i ae k KW hk
   ·simp only[if_neg e'] at KW;exact h.ff i i' ae ae c8 k hk KW
end
def YQ:Value->Option Addr
 | .slice a _ _=>a
 | _=>none
def gX(d:Nat):Value->Nat
 | .slice (some a) _ _=>a.block
 | _=>d
def Bt:Value->Nat
 | .slice _ _ c=>c
 | _=>0
theorem cD.shape{X w:World}{t:TypeId}{sz n d:Nat}{v:Value}{G:Nat->Value}(h:cD X w t sz v n G):v = .slice (oa n (gX d v) (YQ v)) n (Bt v)/\n<=Bt v/\Bt v<=maxLen:=by
 rcases h with⟨rfl,rfl⟩|⟨k,cap,C,rfl,h2,h3,h4,h5,_⟩
 ·exact⟨rfl,Nat.le_refl _,Nat.zero_le _⟩
 ·refine⟨?_,h4,h5⟩;simp only[gX,YQ,Bt,oa,ite_self]
theorem cD.gX{X w:World}{t:TypeId}{sz n d:Nat}{v:Value}{G:Nat->Value}(h:cD X w t sz v n G)(hn:0<n):jf v (gX d v)/\∃ C,ay w (gX d v) C t/\∀ i,i<n*sz->C[i]?=some (G i):=by
 obtain⟨k,cap,C,rfl,h2,h3,h4,h5,h6,h7⟩:=h.aH hn;exact⟨dO.2 rfl,C,h3,h7⟩
theorem cD.jO{X w:World}{t:TypeId}{sz n d:Nat}{v:Value}{G:Nat->Value}(h:cD X w t sz v n G)(hd:X.heap.size<=d/\d<w.heap.size):X.heap.size<=Go.Proofs.YtmahadmefplbnaaGreatDoor.gX d v/\Go.Proofs.YtmahadmefplbnaaGreatDoor.gX d v<w.heap.size:=by
 rcases h with⟨rfl,rfl⟩|⟨k,cap,C,rfl,h2,h3,_⟩
 ·exact hd
 ·exact⟨h2,h3.lt⟩
def om(p:Nat)(vb vl vo vw:Value)(vf:Nat->Value):TM where
 bb:=gX p vb
 bc:=Bt vb
 lb:=gX p vl
 lc:=Bt vl
 ob:=gX p vo
 oc:=Bt vo
 wb:=gX p vw
 j4:=Bt vw
 fb i:=gX p (vf i)
 fc i:=Bt (vf i)
 bx:=YQ vb
 lx:=YQ vl
 ox:=YQ vo
 wx:=YQ vw
 fx i:=YQ (vf i)
theorem OS.ta{X W:World}{P:LP}{p:Nat}{vb vl vo vw:Value}{vf:Nat->Value}(h:OS X P p vb vl vo vb P.m vl P.m P.m vo P.n vw vf W):TA X P P.first p (om p vb vl vo vw vf) W:=by
 have hp:=And.intro h.up h.tab.lt;refine⟨⟨⟨_,h.tab,?_⟩,fun hm=>?_,fun hm=>?_,fun hn=>?_,fun hn=>?_,fun hn i hi=>?_,fun hn i i' hi BZ e=>?_,fun hn i hi e=>?_,fun hm hn e=>?_,?_⟩,?_,?_⟩
 ·simp only[Bx,om,LP.first];refine⟨rfl,?_,?_,?_,by rw[df];rfl,?_⟩
  ·rw[← (h.b.shape (d:=p)).1];rfl
  ·rw[← (h.l.shape (d:=p)).1];rfl
  ·rw[← (h.o.shape (d:=p)).1];rfl
  ·rw[← (h.w.shape (d:=p)).1];rfl
 ·obtain⟨_,C,b,c⟩:=h.b.gX (d:=p) hm;exact⟨C,b,fun i hi=>by rw[c i ae];simp only[LP.first];rw[Int.natCast_add]⟩
 ·obtain⟨_,C,b,c⟩:=h.l.gX (d:=p) hm;refine⟨C,b,fun i hi=>⟨by rw[c _ ae,lg0];rfl,?_⟩⟩;rw[c _ ae,lg1];simp only[om];rw[← ((h.f i hi).shape (d:=p)).1]
 ·obtain⟨_,C,b,c⟩:=h.o.gX (d:=p) hn;exact⟨C,b,fun j hj=>by rw[c j ae];rfl⟩
 ·obtain⟨_,C,b,c⟩:=h.w.gX (d:=p) hn;exact⟨C,b,fun j hj=>by rw[c j ae];rfl⟩
 ·obtain⟨_,C,b,c⟩:=(h.f i hi).gX (d:=p) hn;exact⟨C,b,fun j hj=>by rw[c j ae];rfl⟩
 ·rcases Nat.lt_or_ge i i' with h'|h'
  ·exact absurd ((h.f i' BZ).gX (d:=p) hn).1 (by rw[show gX p (vf i')=gX p (vf i) from e.symm];exact h.ff i i' hi BZ ae _ ((h.f i hi).gX (d:=p) hn).1)
  ·rcases Nat.lt_or_ge i' i with h''|h''
   ·exact absurd ((h.f i' BZ).gX (d:=p) hn).1 (by rw[show gX p (vf i')=gX p (vf i) from e.symm];exact h.ff i i' hi BZ ae _ ((h.f i hi).gX (d:=p) hn).1)
   ·omega
 ·exact absurd (h.w.gX (d:=p) hn).1 (by rw[show gX p vw=gX p (vf i) from e.symm];exact h.fw i hi _ ((h.f i hi).gX (d:=p) hn).1)
 ·exact absurd (h.o.gX (d:=p) hn).1 (by rw[show gX p vo=gX p vb from e.symm];exact h.bo _ (h.b.gX (d:=p) hm).1)
 ·exact⟨(h.b.shape (d:=p)).2,(h.l.shape (d:=p)).2,(h.o.shape (d:=p)).2,(h.w.shape (d:=p)).2,fun i hi=>((h.f i hi).shape (d:=p)).2⟩
 ·rintro k (rfl|rfl|rfl|rfl|rfl|⟨i,hi,rfl⟩)
  ·exact hp.1
  ·exact(h.b.jO hp).1
  ·exact(h.l.jO hp).1
  ·exact(h.o.jO hp).1
  ·exact(h.w.jO hp).1
  ·exact((h.f i hi).jO hp).1
 ·rintro k (rfl|rfl|rfl|rfl|rfl|⟨i,hi,rfl⟩)
  ·exact hp.2
  ·exact(h.b.jO hp).2
  ·exact(h.l.jO hp).2
  ·exact(h.o.jO hp).2
  ·exact(h.w.jO hp).2
  ·exact((h.f i hi).jO hp).2
theorem jI:prog.underlying 30=some (.slice 34):=ag
theorem Tj {v:Value} {n:Nat} {g:Nat->Value} {w:World} (h:Rd w v n g) (h1:∀ j,j<n->(g j).oneCell'=true) (hn:n<=1000) :
    Calls prog 194 #[v] w fun e w'=>∃ v',e = .returned v'/\Ext w w'/\cD w w' 34 1 v' n g:=by
 obtain⟨ao,cap,rfl,c1,c2,hc⟩:=h;cases ao with
 | none =>
  have dX:n=0:=by
   rcases Nat.eq_zero_or_pos n with h|h
   ·exact h
   ·obtain⟨a,e,_⟩:=hc 0 h;cases e
  subst dX;have hb:∀ W,(binOp BinOp.eql 30 (.slice none 0 cap) (.slice none 0 0)).run prog W = .ok (.bool true) W:=fun W=>ag
  clear hc;go_enter func194,ntmps194;go_wp2;go_ret;exact⟨_,rfl,Ext.refl _,Or.inl ⟨rfl,rfl⟩⟩
 | some a =>
  have HC:Hid (∀ j,j<n->w.cell? (a.add j)=some (g j)):=ai (fun j hj=>by obtain⟨b,e,h⟩:=hc j hj;rw[Option.some.inj e];exact h);have H1:=ai h1;have hb:∀ W,(binOp BinOp.eql 30 (.slice (some a) n cap) (.slice none 0 0)).run prog W = .ok (.bool false) W:=fun W=>ag
  clear hc h1;have hs:n<=maxLen:=Nat.le_trans c1 c2;go_enter func194,ntmps194;have hX:Ext w (w.alloc (.cells #[] 34)):=(Ext.refl w).alloc _;have hO:cD w (w.alloc (.cells #[] 34)) 34 1 (.slice (some ⟨w.heap.size,0,none⟩) 0 0) 0 g:=Or.inr ⟨_,0,#[],rfl,Nat.le_refl _,ay.new _ _ _,Nat.le_refl _,Nat.zero_le _,rfl,fun i hi=>ae⟩;have HX:=ai hX;have HO:=ai hO;clear hX hO;go_wp2_with (at_builtin;refine wpList_plain rfl fun K_ aL=>jx (X:=w) (G:=g) (H:=g) rfl rfl rfl jI j7 rfl HX.o HO.o (fun e=>by cases e) (fun j hj=>aC HX.o (HC.o j ae)) (fun j hj=>H1.o j ae) ae ae (fun v' w' hA=>aL _ _ ?_));have HA:=ai hA;clear hA;go_wp2;go_ret;refine⟨_,rfl,HA.o.mv.ext,?_⟩;have:=HA.o.own;rw[Nat.zero_add] at this;exact this.congr (fun i hi=>by rw[gM ae];simp)
def Rw(w:World)(v:Value)(m:Nat)(a b:Nat->Value):Prop:=∃ (ao:Option Addr) (cap:Nat),v = .slice ao m cap/\m<=cap/\cap<=maxLen /\
 ∀ i,i<m->∃ lb o,ao=some ⟨lb,o,none⟩/\w.cell? ⟨lb,o+i*2,none⟩=some (a i)/\w.cell? ⟨lb,o+i*2+1,none⟩=some (b i)
theorem Rw.ext{w w':World}{v:Value}{m:Nat}{a b:Nat->Value}(h:Rw w v m a b)(e:Ext w w'):Rw w' v m a b:=by
 obtain⟨ao,cap,h1,h2,h3,h4⟩:=h;exact⟨ao,cap,h1,h2,h3,fun i hi=>let ⟨lb,o,e1,e2,e3⟩:=h4 i hi;⟨lb,o,e1,aC e e2,aC e e3⟩⟩
structure PM(P:LP)(w:World)(vr vc:Value)(va:Nat->Value):Prop where
 rows:Rw w vr P.m va (fun i => .string (qs (P.B i)))
 r8:∀ i,i<P.m->Rq w (va i) P.n (P.A i)
 obj:Rq w vc P.n P.C
theorem PM.ext{P:LP}{w w':World}{vr vc:Value}{va:Nat->Value}(h:PM P w vr vc va)(e:Ext w w'):PM P w' vr vc va:=⟨h.rows.ext e,fun i hi=>(h.r8 i hi).ext e,h.obj.ext e⟩
def qcY(P:LP)(w:World)(e:Ending)(w':World):Prop:=∃ (pk:Nat) (M:TM),e = .returned (.pointer (some ⟨pk,0,none⟩))/\Ext w w'/\TA w P P.first pk M w'
theorem z6:prog.underlying 85=some (.slice 3):=ag
theorem Gm:(prog.info? 3).map (fun i=>(i.zero,i.size,i.bytes))=some (some (.int .i64 0),1,8):=ag
theorem Rj:prog.underlying 183=some (.slice 182):=ag
theorem Xp:(prog.info? 182).map (fun i=>(i.zero,i.size,i.bytes))=some (some (.agg #[.string ⟨#[]⟩,.slice none 0 0]),2,40):=ag
theorem W2{X w W:World}{t:TypeId}{sz n:Nat}{v:Value}{G:Nat->Value}(e:Ext w W)(h:cD w W t sz v n G)(hs:X.heap.size<=w.heap.size):cD X W t sz v n G:=by
 rcases h with h|⟨k,cap,C,h1,h2,h3⟩
 ·exact Or.inl h
 ·exact Or.inr ⟨k,cap,C,h1,Nat.le_trans hs h2,h3⟩
theorem cD.one{X w:World}{t:TypeId}{sz n:Nat}{v:Value}{G:Nat->Value}(h:cD X w t sz v n G):v.oneCell'=true:=by
 rcases h with⟨rfl,_⟩|⟨k,cap,C,rfl,_⟩ <;> rfl
theorem cD.oq{X w:World}{t:TypeId}{sz n:Nat}{v:Value}{G:Nat->Value}(h:cD X w t sz v n G):∃ a k c,v = .slice a k c:=by
 rcases h with⟨rfl,_⟩|⟨k,cap,C,rfl,_⟩ <;> exact⟨_,_,_,rfl⟩
theorem gI {P:Program} {X w:World} {e:TypeId} {z:Value} {sz bytes n m c:Nat} {v:Value} {G H:Nat->Value} {ad:Addr} {o:Oper} {a:Act} {Q:Exit->Act->World->Prop} {K:Act->World->Prop} {s x:Operand} {t:TypeId} (ho:o.op = .call { callee:=.builtin .append,args:=#[s,x],argTypes:=#[t,t] })
    (hs:a.eval s=v) (hx:a.eval x = .slice (some ad) m c) (ht:P.underlying t=some (.slice e)) (hi:(P.info? e).map (fun i=>(i.zero,i.size,i.bytes))=some (some z,sz,bytes)) (hzs:z.cells.size=sz)
    (hX:Ext X w) (h:cD X w e sz v n G) (rQ:v = .slice none 0 0->0<m) (hsrc:∀ j,j<m*sz->w.cell? (ad.add j)=some (H j)) (h1:∀ j,j<m*sz->(H j).oneCell'=true) (h63:n+m<=maxLen) (hb:(n+m)*bytes<=140737488355328)
    (hK:∀ b k c w',App X w e sz v n m G H (.slice b k c) w'->K (a.put o.dst (.slice b k c)) w'):o.wp P a w K Q :=
 jx ho hs hx ht hi hzs hX h rQ hsrc h1 h63 hb fun v' w' hA=>by
  obtain⟨b,k,c,rfl⟩:=hA.own.oq;exact hK b k c w' hA
theorem qhF{X w:World}{t:TypeId}{v:Value}{n:Nat}{G H:Nat->Value}(h:cD X w t 1 v (n+1) (app (n*1) G H))(hH:H 0=G n):cD X w t 1 v (n+1) G:=h.congr (fun i hi=>by
 by_cases e:i<n
 ·rw[jF ae]
 ·have:i=n:=ae;subst this;rw[gM ae,show i-i*1=0 by omega,hH])
theorem Rk{w:World}{b:Nat}{t:TypeId}{x y:Value}(h:ay w b #[x,y] t):∀ j,j<1*2->w.cell? ((⟨b,0,none⟩:Addr).add j)=some (if j=0 then x else y):=fun j hj=>by
 rcases (by omega:j=0∨j=1) with rfl|rfl
 ·exact ie h rfl
 ·exact ie h rfl
theorem Rm{x y:Value}(hx:x.oneCell'=true)(hy:y.oneCell'=true):∀ j,j<1*2->(if j=0 then x else y).oneCell'=true:=fun j hj=>by
 split
 ·exact hx
 ·exact hy
theorem R8(P:LP)(vr0 vc:Value)(va:Nat->Value){q:Nat}(w:World)(g:Gd w)(hP:PM P w vr0 vc va)(hn:P.n<=1000)(hm:P.m<=1000)(kn:q<=400)(qa:∀ i,i<P.m->∀ j,j<P.n->QB q (P.A i j)):Calls prog 121 #[.agg #[.int .i64 (P.n:Int),vr0,vc]] w (qcY P w):=by
 have HG:=ai g;have B9:=ai qa;clear g qa;have Vs:=ai hP.obj;have uf:=ai hP.r8;obtain⟨ro,fT,rfl,_,_,qV⟩:=hP.rows;have JD:=ai qV;clear qV hP;go_enter func121,ntmps121;go_wp2_with fail;refine aB (fun W=>Ext w W/\ay W (w.heap.size) (#[.int .i64 (P.n:Int),.slice ro P.m fT,vc]) 32) ⟨((Ext.refl w).alloc _),(ay.nw (#[.int .i64 (P.n:Int),.slice ro P.m fT,vc]) 32)⟩ ?_;rintro w1 ⟨e1,a7⟩;have aD:=ai e1;have ax:=ai a7;have aF:Hid (w.heap.size<=w.heap.size):=ai (Nat.le_refl _);clear e1 a7;refine aE [.val (.pointer (some ⟨w.heap.size,0,none⟩)),.val (.int .i64 (P.n:Int)),.val (.pointer (some ⟨w.heap.size,2,none⟩)),.val (vc),.ch,.ch,.ch,.ch,.ch] (fun L g W=>(L 4=true->cD w W 34 1 (g 4) P.n (fun j => .string (qs (P.C j))))/\(L 5=true->g 5 = .agg #[.string ⟨#[48]⟩,g 4])/\(L 6=true->g 6 = .agg #[.int .i64 (P.n:Int),.slice none 0 0,.slice none 0 0,.slice none 0 0,.string ⟨#[48]⟩,g 4])/\(L 7=true->∃ pk,g 7 = .pointer (some ⟨pk,0,none⟩)/\w.heap.size<=pk/\ay W pk #[.int .i64 (P.n:Int),.slice none 0 0,.slice none 0 0,.slice none 0 0,.string ⟨#[48]⟩,g 4] 185)/\(L 8=true->g 8=g 7)) (S:=fun _=>False) ag ag ag (Mv.refl aD.o (fun k h=>h.elim)) ?_ ?_ ?_ ?_ (fun fI w2 aK bW=>?_)
 ·exact fun g=>⟨fun h=>absurd h af,fun h=>absurd h af,fun h=>absurd h af,fun h=>absurd h af,fun h=>absurd h af⟩
 ·exact fun L g W W1 h e=>⟨fun a=>(h.1 a).ext e,h.2.1,h.2.2.1,fun a=>let ⟨pk,x,y,z⟩:=h.2.2.2.1 a;⟨pk,x,y,z.ext e⟩,h.2.2.2.2⟩
 ·intro i v L g W hi h;have Gc:i≠4:=gJ hi rfl;have yX:i≠5:=gJ hi rfl;have AH:i≠6:=gJ hi rfl;have k5:i≠7:=gJ hi rfl;have nT:i≠8:=gJ hi rfl;simp only[bB Gc,bE Gc,bB yX,bE yX,bB AH,bE AH,bB k5,bE k5,bB nT,bE nT];exact h
 ·skip
  refine RI 1 (.pointer (some ⟨w.heap.size,0,none⟩))<|J2 (fun aw=>aw.val 0) (fun aw=>(aw.mv.aH ax.o (fun h=>h)).cell 0 rfl)<|RI 1 (.pointer (some ⟨w.heap.size,0,none⟩))<|J2 (fun aw=>aw.val 2) (fun aw=>(aw.mv.aH ax.o (fun h=>h)).cell 2 rfl) ?_;refine aN.cons (fun L_ g_ A_ W_ aw=>?_) ?_
  ·have qa0:=aw.val 3;refine fl.ch fun K_ aL=>?_;have yX:=aw.no 5 af ag;have AH:=aw.no 6 af ag;have k5:=aw.no 7 af ag;have nT:=aw.no 8 af ag;have bV:=ai (And.intro yX (And.intro AH (And.intro k5 nT)));clear yX AH k5 nT;have a8:=ai aw.e;have bU:=ai aw.mv;go_simp;refine(Tj (g:=(fun j => .string (qs (P.C j)))) (Vs.o.ext aw.mv.ext) (fun _ _=>rfl) hn).mono ?_;rintro e jG ⟨v_,rfl,ft,QO⟩;exact aL.o v_ jG (bU.o.trans ft) (by simp only[bS,cT,cd 4 5,cf 4 5,cd 4 6,cf 4 6,cd 4 7,cf 4 7,cd 4 8,cf 4 8,bV.o.1,bV.o.2.1,bV.o.2.2.1,bV.o.2.2.2];exact⟨fun _=>W2 ft QO (bU.o.ext.size),(fun h=>by cases h),(fun h=>by cases h),(fun h=>by cases h),(fun h=>by cases h)⟩)
  refine aN.cons (fun L_ g_ A_ W_ aw=>?_) ?_
  ·have Kx:=aw.ch 4;refine fl.ch fun K_ aL=>?_;have xZ:=aw.yes 4 ag;have AH:=aw.no 6 af ag;have k5:=aw.no 7 af ag;have nT:=aw.no 8 af ag;obtain⟨a_,n_,c_,lP⟩:=(aw.e.1 xZ).oq;rw[lP] at Kx;have nX:=ai lP;clear lP;have bV:=ai (And.intro xZ (And.intro AH (And.intro k5 nT)));clear xZ AH k5 nT;have wP:=aw.e;rw[nX.o] at wP;have a8:=ai wP;have bU:=ai aw.mv;clear wP;go_simp;exact aL.o _ _ bU.o (by simp only[bS,cT,cd 5 4,cf 5 4,cd 5 6,cf 5 6,cd 5 7,cf 5 7,cd 5 8,cf 5 8,bV.o.1,bV.o.2.1,bV.o.2.2.1,bV.o.2.2.2,nX.o];exact⟨fun _=>a8.o.1 bV.o.1,fun _=>by first|rfl|trivial,(fun h=>by cases h),(fun h=>by cases h),(fun h=>by cases h)⟩)
  refine aN.cons (fun L_ g_ A_ W_ aw=>?_) ?_
  ·have Db:=aw.val 1;have C9:=aw.ch 5;refine fl.ch fun K_ aL=>?_;have xZ:=aw.yes 4 ag;have JY:=aw.yes 5 ag;have k5:=aw.no 7 af ag;have nT:=aw.no 8 af ag;have e5_:=aw.e.2.1 JY;obtain⟨a_,n_,c_,lP⟩:=(aw.e.1 xZ).oq;rw[e5_,lP] at C9;have nX:=ai lP;clear e5_ lP;have bV:=ai (And.intro xZ (And.intro JY (And.intro k5 nT)));clear xZ JY k5 nT;have wP:=aw.e;rw[nX.o] at wP;have a8:=ai wP;have bU:=ai aw.mv;clear wP;go_simp;exact aL.o _ _ bU.o (by simp only[bS,cT,cd 6 4,cf 6 4,cd 6 5,cf 6 5,cd 6 7,cf 6 7,cd 6 8,cf 6 8,bV.o.1,bV.o.2.1,bV.o.2.2.1,bV.o.2.2.2,nX.o];exact⟨fun _=>a8.o.1 bV.o.1,fun _=>a8.o.2.1 bV.o.2.1,fun _=>by first|rfl|trivial,(fun h=>by cases h),(fun h=>by cases h)⟩)
  refine aN.cons (fun L_ g_ A_ W_ aw=>?_) ?_
  ·have R6:=aw.ch 6;refine fl.ch fun K_ aL=>?_;have xZ:=aw.yes 4 ag;have JY:=aw.yes 5 ag;have Io:=aw.yes 6 ag;have nT:=aw.no 8 af ag;have e6_:=aw.e.2.2.1 Io;obtain⟨a_,n_,c_,lP⟩:=(aw.e.1 xZ).oq;rw[e6_,lP] at R6;have nX:=ai lP;clear e6_ lP;have bV:=ai (And.intro xZ (And.intro JY (And.intro Io nT)));clear xZ JY Io nT;have wP:=aw.e;rw[nX.o] at wP;have a8:=ai wP;have bU:=ai aw.mv;clear wP;go_simp;exact aL.o _ _ (bU.o.alloc _) (by simp only[bS,cT,cd 7 4,cf 7 4,cd 7 5,cf 7 5,cd 7 6,cf 7 6,cd 7 8,cf 7 8,bV.o.1,bV.o.2.1,bV.o.2.2.1,bV.o.2.2.2,nX.o];exact⟨fun _=>(a8.o.1 bV.o.1).ext ((Ext.refl _).alloc _),fun _=>a8.o.2.1 bV.o.2.1,fun _=>a8.o.2.2.1 bV.o.2.2.1,fun _=>⟨_,rfl,bU.o.ext.size,ay.new _ _ _⟩,(fun h=>by cases h)⟩)
  refine aN.cons (fun L_ g_ A_ W_ aw=>?_) ?_
  ·have qaZ:=aw.ch 7;refine fl.ch fun K_ aL=>?_;have xZ:=aw.yes 4 ag;have JY:=aw.yes 5 ag;have Io:=aw.yes 6 ag;have y7_:=aw.yes 7 ag;have bV:=ai (And.intro xZ (And.intro JY (And.intro Io y7_)));clear xZ JY Io y7_;have a8:=ai aw.e;have bU:=ai aw.mv;go_simp;exact aL.o _ _ bU.o (by simp only[bS,cT,cd 8 4,cf 8 4,cd 8 5,cf 8 5,cd 8 6,cf 8 6,cd 8 7,cf 8 7,bV.o.1,bV.o.2.1,bV.o.2.2.1,bV.o.2.2.2];exact⟨fun _=>a8.o.1 bV.o.1,fun _=>a8.o.2.1 bV.o.2.1,fun _=>a8.o.2.2.1 bV.o.2.2.1,fun _=>a8.o.2.2.2.1 bV.o.2.2.2,fun _=>by first|rfl|trivial⟩)
  exact aN.nil
 simp only[gm,Ke.value,b7,Act.put,aq,au,av,Nat.reduceAdd];have aM:Hid (Ext w w2):=ai aK.ext;have az:=ai (aK.aH ax.o (fun h=>h));obtain⟨pk,e7_,gp_,bp_⟩:=bW.2.2.2.1 rfl;have e8_:=(bW.2.2.2.2 rfl).trans e7_;have ow_:=bW.1 rfl;rw[e8_,e7_];obtain⟨vw,Lj⟩:∃ v,fI 4=v:=⟨_,rfl⟩
 rw[Lj] at bp_ ow_ ⊢;have VU:Hid (OS w P pk (.slice none 0 0) (.slice none 0 0) (.slice none 0 0) (.slice none 0 0) 0 (.slice none 0 0) 0 0 (.slice none 0 0) 0 vw (fun _=>(.slice none 0 0)) w2):=ai ⟨bp_,gp_,cD.nil _ _ _ _ _,cD.nil _ _ _ _ _,cD.nil _ _ _ _ _,ow_,fun i hi=>absurd hi (Nat.not_lt_zero i),fun k hk=>absurd hk pe,fun i hi=>absurd hi (Nat.not_lt_zero i),fun i i2 hi=>absurd hi (Nat.not_lt_zero i)⟩;clear e7_ e8_ gp_ bp_ ow_ Lj;clear aK bW;have aG:=az.o.cell 0 rfl;go_wp2_with fail;clear aG;go_loopw [20] (fun bY wx=>∃ i:Nat,bY = .int .i64 i/\i<=P.n/\Hid (Ext w wx/\ay wx (w.heap.size) (#[.int .i64 (P.n:Int),.slice ro P.m fT,vc]) 32/\(∃ vo,OS w P pk (.slice none 0 0) (.slice none 0 0) vo (.slice none 0 0) 0 (.slice none 0 0) 0 0 vo i vw (fun _=>(.slice none 0 0)) wx))) (fun bY _=>P.n-(intOf bY).toNat)
 case atStart=>exact⟨0,rfl,Nat.zero_le _,ai ⟨aM.o,az.o,⟨_,VU.o⟩⟩⟩
 case round =>
  rename World=>w3
  obtain⟨i,rfl,lz,HH⟩:=hrel;have bA:=ai HH.o.1;have aA:=ai HH.o.2.1;obtain⟨vo,gC⟩:=HH.o.2.2;have EW:=ai gC;clear gC;clear HH;by_cases aP:i<P.n
  ·have fj:(i:Int)<((P.n:Nat):Int):=ae;have qcD:=EW.o.d3;go_wp2_with (
    at_builtin;refine wpList_plain rfl fun K_ aL=>gI (X:=w) (H:=fun _ => .int .i64 (i:Int)) (ad:=⟨w3.heap.size,0,none⟩) (m:=1) (c:=1) (v:=vo) rfl rfl rfl z6 Gm rfl (bA.o.alloc _) (EW.o.alloc _).o (fun _=>af) (fun j hj=>by obtain rfl:j=0:=ae;exact ie (ay.nw (#[.int .i64 (i:Int)]) 3) rfl) (fun _ _=>rfl) (by unfold maxLen;omega) ae (fun QU Gc c4_ w4 iF=>aL _ _ ?_)
    have bO:Hid (Ext w w4):=ai iF.mv.ext;have aJ:Hid (ay w4 (w.heap.size) (#[.int .i64 (P.n:Int),.slice ro P.m fT,vc]) 32):=ai (iF.mv.aH (aA.o.alloc _) (EW.o.o.aU aA.o af));have tU:Hid (OS w P pk (.slice none 0 0) (.slice none 0 0) vo (.slice none 0 0) 0 (.slice none 0 0) 0 0 (.slice QU Gc c4_) (i+1) vw (fun _=>(.slice none 0 0)) w4):=ai ((EW.o.alloc _).qcP iF rfl);clear iF qcD;have qcD:=tU.o.d3;have qnr:=tU.o.free 3
   )
   go_roundw
   case rel=>exact⟨i+1,by go_num,ae,ai ⟨(bO.o.setCell (VU.o.up) _),(aJ.o.other (a:=⟨pk,3,none⟩) _ (cY aJ.o tU.o.tab af)),⟨_,(tU.o.qfE (.slice QU Gc c4_))⟩⟩⟩
   case measure=>simp[intOf];omega
  ·have eY:i=P.n:=ae;have kx:¬ (i:Int)<((P.n:Nat):Int):=ae;have qiH:Hid (OS w P pk (.slice none 0 0) (.slice none 0 0) vo (.slice none 0 0) 0 (.slice none 0 0) 0 0 vo P.n vw (fun _=>(.slice none 0 0)) w3):=ai (eY▸EW.o);clear eY;have aI:=aA.o.cell 1 rfl;go_wp2_with fail;clear aI;go_loopw [37] (fun bY wx=>∃ k:Nat,bY = .int .i64 k/\k<=P.m/\Hid (Ext w wx/\ay wx (w.heap.size) (#[.int .i64 (P.n:Int),.slice ro P.m fT,vc]) 32/\(∃ vb vl vf,OS w P pk vb vl vo vb k vl k k vo P.n vw vf wx))) (fun bY _=>P.m-(intOf bY).toNat)
   case atStart=>exact⟨0,rfl,Nat.zero_le _,ai ⟨bA.o,aA.o,⟨_,_,_,qiH.o⟩⟩⟩
   case round =>
    rename World=>w4
    obtain⟨k,rfl,mg,HH⟩:=hrel;have bO:=ai HH.o.1;have aJ:=ai HH.o.2.1;obtain⟨vb,vl,vf,gC⟩:=HH.o.2.2;have tU:=ai gC;clear gC;clear HH;by_cases aP:k<P.m
    ·have fj:(k:Int)<((P.m:Nat):Int):=ae;obtain⟨ra,o_,rfl,Ff,L5⟩:=JD.o k aP;obtain⟨fo,eh,qW,_,_,wO⟩:=uf.o k aP;rw[qW] at Ff;have BO:=ai Ff;have Zv:=ai L5;have LL:=ai wO;clear Ff L5 wO qW;have pR:=aP;have HLK:=ai pR;clear pR;have eS:=aC bO.o (BO.o);have dj:=aC bO.o (Zv.o);go_upto_region 10 with fail
     have qfb:Hid (∀ q_,OD pk vb vl vo vw vf k q_->q_≠w4.heap.size):=ai (tU.o.ne ah);refine aB (fun W=>Ext w W/\ay W (w.heap.size) (#[.int .i64 (P.n:Int),.slice (some ⟨ra,o_,none⟩) P.m fT,vc]) 32/\OS w P pk vb vl vo vb k vl k k vo P.n vw vf W/\ay W (w4.heap.size) (#[.slice fo P.n eh,.string (qs (P.B k))]) 97) ⟨(bO.o.alloc _),(aJ.o.alloc _),(tU.o.alloc _),(ay.nw (#[.slice fo P.n eh,.string (qs (P.B k))]) 97)⟩ ?_;rintro w5 ⟨e5,eJ,Vb,fP⟩;have cX:=ai e5;have aT:=ai eJ;have VT:=ai Vb;have bI:=ai fP;have aS:Hid (w.heap.size<=w4.heap.size):=ai (bO.o.size);clear e5 eJ Vb fP eS dj;have gp:=bI.o.cell 1 rfl;go_upto_region 11 with fail
     have uQ:Hid (∀ q_,OD pk vb vl vo vw vf k q_->q_≠w5.heap.size):=ai (VT.o.ne ah);refine aB (fun W=>Ext w W/\ay W (w.heap.size) (#[.int .i64 (P.n:Int),.slice (some ⟨ra,o_,none⟩) P.m fT,vc]) 32/\OS w P pk vb vl vo vb k vl k k vo P.n vw vf W/\ay W (w4.heap.size) (#[.slice fo P.n eh,.string (qs (P.B k))]) 97/\ay W (w5.heap.size) (#[.string (qs (P.B k)),.slice none 0 0]) 182) ⟨(cX.o.alloc _),(aT.o.alloc _),(VT.o.alloc _),(bI.o.alloc _),(ay.nw (#[.string (qs (P.B k)),.slice none 0 0]) 182)⟩ ?_;rintro w6 ⟨e6,lH,Va,oU,Vg⟩;have gd:=ai e6;have bC:=ai lH;have VS:=ai Va;have cx:=ai oU;have qe:=ai Vg;have fF:Hid (w.heap.size<=w5.heap.size):=ai (cX.o.size);clear e6 lH Va oU Vg gp;have cH:=cx.o.cell 0 rfl;go_wp2_with fail;clear cH;have Ze:Hid (∀ q,OD pk vb vl vo vw vf k q->q<w6.heap.size):=ai VS.o.lt;have qoQ:Hid (w5.heap.size<w6.heap.size):=ai qe.o.lt;go_wp2_with fail;go_loopw [48] (fun bY wx=>∃ j:Nat,bY = .int .i64 j/\j<=P.n/\Hid (Ext w wx/\ay wx (w.heap.size) (#[.int .i64 (P.n:Int),.slice (some ⟨ra,o_,none⟩) P.m fT,vc]) 32/\OS w P pk vb vl vo vb k vl k k vo P.n vw vf wx/\ay wx (w4.heap.size) (#[.slice fo P.n eh,.string (qs (P.B k))]) 97/\(∃ vr,ay wx (w5.heap.size) #[.string (qs (P.B k)),vr] 182/\cD w wx 34 1 vr j (fun j => .string (qs (-P.A k j)))/\(∀ q,jf vr q->w6.heap.size<=q)/\w6.heap.size<=wx.heap.size))) (fun bY _=>P.n-(intOf bY).toNat)
     case atStart=>exact⟨0,rfl,Nat.zero_le _,ai ⟨gd.o,bC.o,VS.o,cx.o,⟨_,qe.o,cD.nil _ _ _ _ _,fun q hq=>absurd hq pe,Nat.le_refl _⟩⟩⟩
     case round =>
      rename World=>w7
      obtain⟨j,rfl,Oj,HH⟩:=hrel;have ig:=ai HH.o.1;have cg:=ai HH.o.2.1;have VR:=ai HH.o.2.2.1;have bj:=ai HH.o.2.2.2.1;obtain⟨vr,gC,gY,zD,QU⟩:=HH.o.2.2.2.2;have p9:=ai gC;have HVR:=ai gY;have HVG:=ai zD;have HWL:=ai QU;clear gC gY zD QU;clear HH;by_cases aP:j<P.n
      ·have fj:(j:Int)<((P.n:Nat):Int):=ae;obtain⟨fa,rfl,tu⟩:=LL.o j aP;have BS:=ai tu;clear tu;have Pf:=aC ig.o (BS.o);go_wp2_with fail;clear Pf;go_wp2_with fail;refine aE [.val (.pointer (some ⟨w5.heap.size,1,none⟩)),.val (vr),.val (.string (qs (P.A k j))),.val (.string (qs (-P.A k j))),.ch,.ch,.val (.pointer (some ⟨w5.heap.size,1,none⟩)),.ch] (fun L g W=>(L 4=true->∃ b,g 4 = .slice (some ⟨b,0,none⟩) 1 1/\(L 5=false->ay W b #[.string (qs (-P.A k j))] 34))/\(if L 5=true then cD w W 34 1 (g 5) (j+1) (fun j => .string (qs (-P.A k j)))/\∀ q,jf (g 5) q->w6.heap.size<=q else cD w W 34 1 vr j (fun j => .string (qs (-P.A k j))))/\(if L 7=true then ay W (w5.heap.size) #[.string (qs (P.B k)),g 5] 182 else ay W (w5.heap.size) #[.string (qs (P.B k)),vr] 182)) (S:=fun q=>jf vr q∨q=w5.heap.size) ag ag ag (Mv.refl ig.o (fun q h=>h.elim (fun a=>(HVR.o.lt a).1) (fun e=>e▸fF.o))) ?_ ?_ ?_ ?_ (fun fI w8 aK bW=>?_)
       ·exact fun g=>⟨fun h=>absurd h af,(by rw[if_neg af];exact HVR.o.ext (Ext.refl _).drew),(by rw[if_neg af];exact p9.o.drew)⟩
       ·exact fun L g W W1 h e=>⟨fun a=>let ⟨b,x,y⟩:=h.1 a;⟨b,x,fun z=>(y z).ext e⟩,cA h.2.1 (fun h=>⟨h.1.ext e,h.2⟩) (fun h=>h.ext e),cA h.2.2 (fun h=>h.ext e) (fun h=>h.ext e)⟩
       ·intro i v L g W hi h;have Gc:i≠4:=gJ hi rfl;have yX:i≠5:=gJ hi rfl;have k5:i≠7:=gJ hi rfl;simp only[bB Gc,bE Gc,bB yX,bE yX,bB k5,bE k5];exact h
       ·skip
        refine RI 7 (.pointer (some ⟨w5.heap.size,0,none⟩)) ?_;refine RV (fun A_ aw K_ aL=>?_) ?_;· have qlT:=aw.val 0;have k5:=aw.no 7 af ag;have e_:=aw.e.2.2;rw[if_neg (by rw[k5];decide)] at e_;have qnB:=e_.cell 1 rfl;clear k5 e_;go_simp;exact du aL
        refine RI 9 (.string (qs (P.A k j)))<|K1 (fun aw=>aw.val 2) (fun _=>dS (P.A k j) _ (B9.o k HLK.o j aP) ae) ?_;refine aN.cons (fun L_ g_ A_ W_ aw=>?_) ?_
        ·have F1:=aw.val 3;refine fl.ch fun K_ aL=>?_;have yX:=aw.no 5 af ag;have k5:=aw.no 7 af ag;have e_:=aw.e;simp only[yX,k5,aj,if_false] at e_;have bV:=ai (And.intro yX k5);have a8:=ai e_;have bU:=ai aw.mv;clear yX k5 e_;go_simp;exact aL.o _ _ (bU.o.alloc _) (by simp only[bS,cT,cd 4 5,cf 4 5,cd 4 7,cf 4 7,bV.o.1,bV.o.2,aj,if_false,if_true];exact⟨fun _=>⟨_,rfl,fun _=>ay.new _ _ _⟩,a8.o.2.1.ext ((Ext.refl _).alloc _),a8.o.2.2.alloc _⟩)
        refine aN.cons (fun L_ g_ A_ W_ aw=>?_) ?_
        ·have RW:=aw.val 1;have Kw:=aw.ch 4;refine fl.ch fun K_ aL=>?_;have yX:=aw.not;have k5:=aw.no 7 af ag;have xZ:=aw.yes 4 ag;have e_:=aw.e;simp only[xZ,yX,k5,aj,if_false] at e_;obtain⟨b_,g4_,mF⟩:=e_.1 trivial;rw[g4_] at Kw;have bV:=ai (And.intro xZ k5);have a8:=ai e_.2;have yA:=ai g4_;have Hy:=ai (mF trivial);have bU:=ai aw.mv;clear xZ yX k5 e_ g4_ mF;refine jx (X:=w) (H:=(fun _ => .string (qs (-P.A k j)))) (ad:=⟨b_,0,none⟩) (m:=1) (c:=1) (v:=vr) rfl (by go_simp) (by go_simp) jI j7 rfl bU.o.ext a8.o.1 (fun _=>af) (fun i hi=>by obtain rfl:i=0:=ae;exact ie Hy.o rfl) (fun _ _=>rfl) (by unfold maxLen;omega) ae (fun v_ jG iF=>?_);exact aL.o v_ jG (bU.o.comp iF.mv (fun q h=>Or.inl (Or.inl h))) (by simp only[bS,cT,cd 5 4,cf 5 4,cd 5 7,cf 5 7,bV.o.1,bV.o.2,aj,if_false,if_true];exact⟨fun _=>⟨b_,yA.o,(fun h=>by cases h)⟩,⟨qhF iF.own rfl,fun q hq=>(iF.new q hq).elim (HVG.o q) (fun e=>Nat.le_trans (Nat.le_trans HWL.o bU.o.size) e)⟩,iF.mv.aH a8.o.2 (a8.o.1.aU a8.o.2 af)⟩)
        refine RI 7 (.pointer (some ⟨w5.heap.size,0,none⟩)) ?_;refine aN.cons (fun L_ g_ A_ W_ aw=>?_) ?_
        ·have qlS:=aw.val 6;have qfT:=aw.ch 5;refine fl.ch fun K_ aL=>?_;have k5:=aw.not;have xZ:=aw.yes 4 ag;have JY:=aw.yes 5 ag;have e_:=aw.e;simp only[JY,k5,aj,if_false,if_true] at e_;obtain⟨a_,n_,cc_,lP⟩:=e_.2.1.1.oq;rw[lP] at e_ qfT;have nX:=ai lP;clear lP;have c_:=e_.2.2.cell 1 rfl;have f_:=e_.2.2.free 1;have bV:=ai (And.intro xZ JY);have a8:=ai e_;have bU:=ai aw.mv;clear xZ JY k5 e_;go_simp;exact aL.o undef _ (bU.o.setCell (Or.inl (Or.inr rfl)) _) (by simp only[bS,cT,cd 7 4,cf 7 4,cd 7 5,cf 7 5,bV.o.1,bV.o.2,nX.o,aj,if_false,if_true];exact⟨fun _=>let ⟨b,x,_⟩:=a8.o.1 bV.o.1;⟨b,x,(fun h=>by cases h)⟩,⟨a8.o.2.1.1.other _ (a8.o.2.1.1.aU a8.o.2.2 af),a8.o.2.1.2⟩,a8.o.2.2.set 1 _⟩)
        exact aN.nil
       simp only[gm,Ke.value,b7,Act.put,aq,au,av,Nat.reduceAdd];have jQ:Hid (Ext w w8):=ai aK.ext;have fR:=ai (aK.aH cg.o (fun h=>h.elim (HVR.o.aU cg.o af) (fun e=>(Nat.ne_of_lt aT.o.lt) e)));have Qy:=ai (VR.o.mvd aK (fun q hq h=>h.elim (fun a=>Nat.not_le_of_lt (Ze.o q hq) (HVG.o q a)) (uQ.o q hq)));have cE:=ai (aK.aH bj.o (fun h=>h.elim (HVR.o.aU bj.o af) (fun e=>(Nat.ne_of_lt bI.o.lt) e)));have h_:=bW;simp only[if_true] at h_;obtain⟨vr2,Lj⟩:∃ v,fI 5=v:=⟨_,rfl⟩
       rw[Lj] at h_ ⊢;have qhX:=ai h_.2.1.1;have qhY:=ai h_.2.1.2;have VX:=ai h_.2.2;have qhW:Hid (w6.heap.size<=w8.heap.size):=ai (Nat.le_trans HWL.o aK.size);clear h_ Lj;clear aK bW;go_wp2_with fail;go_roundw
       case rel=>exact⟨j+1,by go_num,ae,ai ⟨jQ.o,fR.o,Qy.o,cE.o,⟨_,VX.o,qhX.o,qhY.o,qhW.o⟩⟩⟩
       case measure=>simp[intOf];omega
      ·have eY:j=P.n:=ae;have kx:¬ (j:Int)<((P.n:Nat):Int):=ae;go_wp2_with fail;have qc6:Hid (cD w w7 34 1 vr P.n (fun j => .string (qs (-P.A k j)))):=ai (eY▸HVR.o);obtain⟨vg,evg⟩:∃ vg:Nat->Value,vg=(fun i=>if i=k then vr else vf i):=⟨_,rfl⟩
       have nF:Hid (OS w P pk vb vl vo vb k vl k (k+1) vo P.n vw vg w7):=ai (evg▸VR.o.qhG (Nat.le_refl _) qc6.o (fun q a c=>Nat.not_le_of_lt (Ze.o q (Or.inr (Or.inr (Or.inr (Or.inr (Or.inl c)))))) (HVG.o q a)) (fun i hi q a c=>Nat.not_le_of_lt (Ze.o q (Or.inr (Or.inr (Or.inr (Or.inr (Or.inr ⟨i,hi,c⟩)))))) (HVG.o q a)));have HVK:Hid (vg k=vr):=ai (by rw[evg];exact if_pos rfl);clear evg eY;go_wp2_with fail;refine aE [.val (.pointer (some ⟨pk,0,none⟩)),.val (.pointer (some ⟨pk,0,none⟩)),.val (.pointer (some ⟨pk,0,none⟩)),.val (.pointer (some ⟨pk,0,none⟩)),.val (.pointer (some ⟨pk,1,none⟩)),.val (vb),.val (.pointer (some ⟨w.heap.size,0,none⟩)),.val (.int .i64 (P.n:Int)),.val (.int .i64 (k:Int)),.val (.int .i64 (P.n+k:Int)),.ch,.ch,.val (.pointer (some ⟨pk,0,none⟩)),.val (.pointer (some ⟨pk,0,none⟩)),.val (.pointer (some ⟨pk,2,none⟩)),.val (vl),.val (.agg #[.string (qs (P.B k)),vr]),.ch,.ch,.val (.pointer (some ⟨pk,0,none⟩)),.val (.pointer (some ⟨pk,1,none⟩)),.ch,.val (.pointer (some ⟨pk,0,none⟩)),.val (.pointer (some ⟨pk,2,none⟩)),.ch] (fun L g W=>(L 10=true->∃ b,g 10 = .slice (some ⟨b,0,none⟩) 1 1/\(L 11=false->ay W b #[.int .i64 ((P.n:Int)+(k:Int))] 3))/\(L 17=true->∃ b,g 17 = .slice (some ⟨b,0,none⟩) 1 1/\(L 18=false->ay W b #[.string (qs (P.B k)),vr] 182))/\OS w P pk (if L 21=true then g 11 else vb) (if L 24=true then g 18 else vl) vo (if L 11=true then g 11 else vb) (if L 11=true then k+1 else k) (if L 18=true then g 18 else vl) (if L 18=true then k+1 else k) (k+1) vo P.n vw vg W) (S:=fun q=>jf vb q∨jf vl q∨q=pk) ag ag ag (Mv.refl ig.o (fun q h=>h.elim (fun a=>(nF.o.b.lt a).1) (fun h=>h.elim (fun a=>(nF.o.l.lt a).1) (fun e=>e▸nF.o.up)))) ?_ ?_ ?_ ?_ (fun fI w8 aK bW=>?_)
       ·exact fun g=>⟨fun h=>absurd h af,fun h=>absurd h af,nF.o.drew⟩
       ·exact fun L g W W1 h e=>⟨fun a=>let ⟨b,x,y⟩:=h.1 a;⟨b,x,fun z=>(y z).ext e⟩,fun a=>let ⟨b,x,y⟩:=h.2.1 a;⟨b,x,fun z=>(y z).ext e⟩,h.2.2.ext e⟩
       ·intro i v L g W hi h;have rG:i≠10:=gJ hi rfl;have jz:i≠11:=gJ hi rfl;have fv:i≠17:=gJ hi rfl;have fh:i≠18:=gJ hi rfl;have cJ:i≠21:=gJ hi rfl;have bZ:i≠24:=gJ hi rfl;simp only[bB rG,bE rG,bB jz,bE jz,bB fv,bE fv,bB fh,bE fh,bB cJ,bE cJ,bB bZ,bE bZ];exact h
       ·skip
        refine RI 3 (.pointer (some ⟨pk,0,none⟩))<|RI 3 (.pointer (some ⟨pk,0,none⟩))<|RI 3 (.pointer (some ⟨pk,0,none⟩))<|R1 2<|R1 3 ?_;refine RV (fun A_ aw K_ aL=>?_) ?_;· have qlQ:=aw.val 4;have n_:=aw.no 21 af ag;have qhs:=aw.e.2.2.d1;rw[if_neg (by rw[n_];decide)] at qhs;clear n_;go_simp;exact du aL
        refine RI 1 (.pointer (some ⟨w.heap.size,0,none⟩))<|J2 (fun aw=>aw.val 6) (fun aw=>(aw.mv.aH cg.o (fun h=>h.elim (fun a=>nF.o.b.aU cg.o af a) (fun h=>h.elim (fun a=>absurd a (nF.o.l.aU cg.o af)) (fun e=>cY cg.o nF.o.tab af e)))).cell 0 rfl)<|RI 5 (.int .i64 (k:Int)) ?_;refine RV (fun A_ aw K_ aL=>?_) ?_;· have qaQ:=aw.val 7;have qlO:=aw.val 8;go_simp;try go_bits;exact du aL
        refine aN.cons (fun L_ g_ A_ W_ aw=>?_) ?_
        ·have qlN:=aw.val 9;refine fl.ch fun K_ aL=>?_;have jz:=aw.no 11 af ag;have fh:=aw.no 18 af ag;have cJ:=aw.no 21 af ag;have bZ:=aw.no 24 af ag;have rG:=aw.not;have e_:=aw.e;simp only[jz,fh,cJ,bZ,rG,aj,if_false,if_true] at e_;have bV:=ai (And.intro jz (And.intro fh (And.intro cJ (bZ))));clear jz fh cJ bZ rG;have a8:=ai e_;have bU:=ai aw.mv;clear e_;go_simp;exact aL.o _ _ (bU.o.alloc _) (by simp only[bS,cT,cd 10 11,cf 10 11,cd 10 17,cf 10 17,cd 10 18,cf 10 18,cd 10 21,cf 10 21,cd 10 24,cf 10 24,bV.o.1,bV.o.2.1,bV.o.2.2.1,bV.o.2.2.2,aj,if_false,if_true];exact⟨fun _=>⟨_,rfl,fun _=>ay.new _ _ _⟩,fun h=>let ⟨b,x,y⟩:=a8.o.2.1 h;⟨b,x,fun z=>(y z).alloc _⟩,a8.o.2.2.alloc _⟩)
        refine aN.cons (fun L_ g_ A_ W_ aw=>?_) ?_
        ·have qlP:=aw.val 5;have qfQ:=aw.ch 10;refine fl.ch fun K_ aL=>?_;have qj:=aw.yes 10 ag;have fh:=aw.no 18 af ag;have cJ:=aw.no 21 af ag;have bZ:=aw.no 24 af ag;have jz:=aw.not;have e_:=aw.e;simp only[qj,fh,cJ,bZ,jz,aj,if_false,if_true] at e_;obtain⟨b_,fZ,mF⟩:=e_.1 trivial;rw[fZ] at qfQ;have yA:=ai fZ;have Hy:=ai (mF trivial);clear fZ mF;have bV:=ai (And.intro qj (And.intro fh (And.intro cJ (bZ))));clear qj fh cJ bZ jz;have a8:=ai e_;have bU:=ai aw.mv;clear e_;refine jx (X:=w) (H:=fun _ => .int .i64 ((P.n:Int)+(k:Int))) (ad:=⟨b_,0,none⟩) (m:=1) (c:=1) (v:=vb) rfl (by go_simp) (by go_simp) z6 Gm rfl bU.o.ext a8.o.2.2.b (fun _=>af) (fun i hi=>by obtain rfl:i=0:=ae;exact ie Hy.o rfl) (fun _ _=>rfl) (by unfold maxLen;omega) ae (fun v_ jG iF=>?_);exact aL.o v_ jG (bU.o.comp iF.mv (fun q h=>Or.inl (Or.inl h))) (by simp only[bS,cT,cd 11 10,cf 11 10,cd 11 17,cf 11 17,cd 11 18,cf 11 18,cd 11 21,cf 11 21,cd 11 24,cf 11 24,bV.o.1,bV.o.2.1,bV.o.2.2.1,bV.o.2.2.2,aj,if_false,if_true];exact⟨fun _=>⟨b_,yA.o,(fun h=>by cases h)⟩,fun h=>let ⟨b,x,y⟩:=a8.o.2.1 h;⟨b,x,fun z=>iF.mv.aH (y z) (a8.o.2.2.b.aU (y z) af)⟩,a8.o.2.2.qcR iF rfl⟩)
        refine RI 3 (.pointer (some ⟨pk,0,none⟩))<|R1 12<|R1 13 ?_;refine RV (fun A_ aw K_ aL=>?_) ?_;· have qlM:=aw.val 14;have n_:=aw.no 24 af ag;have qhr:=aw.e.2.2.d2;rw[if_neg (by rw[n_];decide)] at qhr;clear n_;go_simp;exact du aL
        refine J3 (fun aw=>aw.is 7 (.pointer (some ⟨w5.heap.size,0,none⟩))) (fun aw=>(aw.mv.aH p9.o (fun h=>h.elim (fun a=>nF.o.b.aU p9.o af a) (fun h=>h.elim (fun a=>absurd a (fun a=>(uQ.o) _ (Or.inr (Or.inr (Or.inl a))) rfl)) (fun e=>cY p9.o nF.o.tab af e)))).cell 0 rfl) (fun aw=>(aw.mv.aH p9.o (fun h=>h.elim (fun a=>nF.o.b.aU p9.o af a) (fun h=>h.elim (fun a=>absurd a (fun a=>(uQ.o) _ (Or.inr (Or.inr (Or.inl a))) rfl)) (fun e=>cY p9.o nF.o.tab af e)))).cell 1 rfl) ?_;refine aN.cons (fun L_ g_ A_ W_ aw=>?_) ?_
        ·have qlK:=aw.val 16;refine fl.ch fun K_ aL=>?_;have fh:=aw.no 18 af ag;have cJ:=aw.no 21 af ag;have bZ:=aw.no 24 af ag;have fv:=aw.not;have e_:=aw.e;simp only[fh,cJ,bZ,fv,aj,if_false,if_true] at e_;have bV:=ai (And.intro fh (And.intro cJ (bZ)));clear fh cJ bZ fv;have a8:=ai e_;have bU:=ai aw.mv;clear e_;go_simp;exact aL.o _ _ (bU.o.alloc _) (by simp only[bS,cT,cd 17 10,cf 17 10,cd 17 11,cf 17 11,cd 17 18,cf 17 18,cd 17 21,cf 17 21,cd 17 24,cf 17 24,bV.o.1,bV.o.2.1,bV.o.2.2,aj,if_false,if_true];exact⟨fun h=>let ⟨b,x,y⟩:=a8.o.1 h;⟨b,x,fun z=>(y z).alloc _⟩,fun _=>⟨_,rfl,fun _=>ay.new _ _ _⟩,a8.o.2.2.ext ((Ext.refl _).alloc _)⟩)
        refine aN.cons (fun L_ g_ A_ W_ aw=>?_) ?_
        ·have qlL:=aw.val 15;have qfO:=aw.ch 17;refine fl.ch fun K_ aL=>?_;have qj:=aw.yes 10 ag;have uU:=aw.yes 11 ag;have dY:=aw.yes 17 ag;have cJ:=aw.no 21 af ag;have bZ:=aw.no 24 af ag;have fh:=aw.not;have e_:=aw.e;simp only[qj,uU,dY,cJ,bZ,fh,aj,if_false,if_true] at e_;obtain⟨b_,fZ,mF⟩:=e_.2.1 trivial;rw[fZ] at qfO;have yA:=ai fZ;have Hy:=ai (mF trivial);clear fZ mF;have bV:=ai (And.intro qj (And.intro uU (And.intro dY (And.intro cJ (bZ)))));clear qj uU dY cJ bZ fh;have a8:=ai e_;have bU:=ai aw.mv;clear e_;refine jx (X:=w) (H:=fun i=>if i=0 then .string (qs (P.B k)) else vr) (ad:=⟨b_,0,none⟩) (m:=1) (c:=1) (v:=vl) rfl (by go_simp) (by go_simp) Rj Xp rfl bU.o.ext a8.o.2.2.l (fun _=>af) (Rk Hy.o) (Rm rfl qc6.o.one) (by unfold maxLen;omega) ae (fun v_ jG iF=>?_);exact aL.o v_ jG (bU.o.comp iF.mv (fun q h=>Or.inl (Or.inr (Or.inl h)))) (by simp only[bS,cT,cd 18 10,cf 18 10,cd 18 11,cf 18 11,cd 18 17,cf 18 17,cd 18 21,cf 18 21,cd 18 24,cf 18 24,bV.o.1,bV.o.2.1,bV.o.2.2.1,bV.o.2.2.2.1,bV.o.2.2.2.2,aj,if_false,if_true];exact⟨fun _=>let ⟨b,x,_⟩:=a8.o.1 trivial;⟨b,x,(fun h=>by cases h)⟩,fun _=>⟨b_,yA.o,(fun h=>by cases h)⟩,a8.o.2.2.qcQ iF (if_pos rfl) ((if_neg af).trans HVK.o.symm)⟩)
        refine R1 0<|R1 19 ?_;refine aN.cons (fun L_ g_ A_ W_ aw=>?_) ?_
        ·have qfM:=aw.val 20;have qfP:=aw.ch 11;refine fl.ch fun K_ aL=>?_;have qj:=aw.yes 10 ag;have uU:=aw.yes 11 ag;have dY:=aw.yes 17 ag;have Fh:=aw.yes 18 ag;have bZ:=aw.no 24 af ag;have cJ:=aw.not;have e_:=aw.e;simp only[qj,uU,dY,Fh,bZ,cJ,aj,if_false,if_true] at e_;obtain⟨a_,n_,cc_,lP⟩:=e_.2.2.b.oq;rw[lP] at e_ qfP;have nX:=ai lP;clear lP;have c_:=e_.2.2.d1;have f_:=e_.2.2.free 1;have bV:=ai (And.intro qj (And.intro uU (And.intro dY (And.intro Fh (bZ)))));clear qj uU dY Fh bZ cJ;have a8:=ai e_;have bU:=ai aw.mv;clear e_;go_simp;exact aL.o undef _ (bU.o.setCell (Or.inl (Or.inr (Or.inr rfl))) _) (by simp only[bS,cT,cd 21 10,cf 21 10,cd 21 11,cf 21 11,cd 21 17,cf 21 17,cd 21 18,cf 21 18,cd 21 24,cf 21 24,bV.o.1,bV.o.2.1,bV.o.2.2.1,bV.o.2.2.2.1,bV.o.2.2.2.2,nX.o,aj,if_false,if_true];exact⟨fun _=>let ⟨b,x,_⟩:=a8.o.1 trivial;⟨b,x,(fun h=>by cases h)⟩,fun _=>let ⟨b,x,_⟩:=a8.o.2.1 trivial;⟨b,x,(fun h=>by cases h)⟩,a8.o.2.2.qfG _⟩)
        refine R1 1<|R1 22 ?_;refine aN.cons (fun L_ g_ A_ W_ aw=>?_) ?_
        ·have qfK:=aw.val 23;have qfN:=aw.ch 18;refine fl.ch fun K_ aL=>?_;have qj:=aw.yes 10 ag;have uU:=aw.yes 11 ag;have dY:=aw.yes 17 ag;have Fh:=aw.yes 18 ag;have mJ:=aw.yes 21 ag;have bZ:=aw.not;have e_:=aw.e;simp only[qj,uU,dY,Fh,mJ,bZ,aj,if_false,if_true] at e_;obtain⟨a_,n_,cc_,lP⟩:=e_.2.2.l.oq;rw[lP] at e_ qfN;have nX:=ai lP;clear lP;have c_:=e_.2.2.d2;have f_:=e_.2.2.free 2;have bV:=ai (And.intro qj (And.intro uU (And.intro dY (And.intro Fh (mJ)))));clear qj uU dY Fh mJ bZ;have a8:=ai e_;have bU:=ai aw.mv;clear e_;go_simp;exact aL.o undef _ (bU.o.setCell (Or.inl (Or.inr (Or.inr rfl))) _) (by simp only[bS,cT,cd 24 10,cf 24 10,cd 24 11,cf 24 11,cd 24 17,cf 24 17,cd 24 18,cf 24 18,cd 24 21,cf 24 21,bV.o.1,bV.o.2.1,bV.o.2.2.1,bV.o.2.2.2.1,bV.o.2.2.2.2,nX.o,aj,if_false,if_true];exact⟨fun _=>let ⟨b,x,_⟩:=a8.o.1 trivial;⟨b,x,(fun h=>by cases h)⟩,fun _=>let ⟨b,x,_⟩:=a8.o.2.1 trivial;⟨b,x,(fun h=>by cases h)⟩,a8.o.2.2.qfF _⟩)
        exact aN.nil
       simp only[gm,Ke.value,b7,Act.put,aq,au,av,Nat.reduceAdd];have jQ:Hid (Ext w w8):=ai aK.ext;have fR:=ai (aK.aH cg.o (fun h=>h.elim (fun a=>nF.o.b.aU cg.o af a) (fun h=>h.elim (fun a=>absurd a (nF.o.l.aU cg.o af)) (fun e=>cY cg.o nF.o.tab af e))));have cE:=ai (aK.aH bj.o (fun h=>h.elim (fun a=>nF.o.b.aU bj.o af a) (fun h=>h.elim (fun a=>absurd a (nF.o.l.aU bj.o af)) (fun e=>cY bj.o nF.o.tab af e))));have VX:=ai (aK.aH p9.o (fun h=>h.elim (fun a=>nF.o.b.aU p9.o af a) (fun h=>h.elim (fun a=>absurd a (fun a=>(uQ.o) _ (Or.inr (Or.inr (Or.inl a))) rfl)) (fun e=>cY p9.o nF.o.tab af e))));have h_:=bW.2.2;simp only[if_true] at h_;have Qy:=ai h_;clear h_;clear aK bW;go_wp2_with fail;go_roundw
       case rel=>exact⟨k+1,by go_num,ae,ai ⟨jQ.o,fR.o,⟨_,_,_,Qy.o⟩⟩⟩
       case measure=>simp[intOf];omega
    ·have eY:k=P.m:=ae;have kx:¬ (k:Int)<((P.m:Nat):Int):=ae;go_wp2;go_ret;exact⟨pk,_,rfl,bO.o,(OS.ta (eY▸tU.o))⟩
