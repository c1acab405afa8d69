/- Part 29. -/
import Derived.Test.YtmahadmefplbnaaGreatDoorQVLB
import Derived.Test.YtmahadmefplbnaaGreatDoorQVL28
import Derived.Laws.AppendOwn
set_option maxRecDepth 100000
set_option maxHeartbeats 2000000
open Go.Proofs.Tryz
set_option linter.unusedSimpArgs false
set_option linter.unusedVariables false
namespace Go.Proofs.YtmahadmefplbnaaGreatDoor
open Go Go.RowKit
def cD(X w:World)(t:TypeId)(sz:Nat)(v:Value)(n:Nat)(G:Nat->Value):Prop :=
 (v = .slice none 0 0/\n=0)∨∃ (k cap:Nat) (C:Array Value),v = .slice (some ⟨k,0,none⟩) n cap/\X.heap.size<=k/\ay w k C t/\n<=cap/\cap<=maxLen/\C.size=cap*sz/\∀ i,i<n*sz->C[i]?=some (G i)
def jf(v:Value)(k:Nat):Prop:=v.ownBlock=some k
theorem pe{k:Nat}:¬ jf (.slice none 0 0) k:=fun h=>by simp[jf,Value.ownBlock] at h
theorem dO{k k' n c:Nat}:jf (.slice (some ⟨k,0,none⟩) n c) k' ↔ k=k':=by simp[jf,Value.ownBlock]
section
variable {X w w':World} {t:TypeId} {sz n:Nat} {v:Value} {G G':Nat->Value}
theorem cD.nil(X w:World)(t:TypeId)(sz:Nat)(G:Nat->Value):cD X w t sz (.slice none 0 0) 0 G:=Or.inl ⟨rfl,rfl⟩
theorem cD.aH(h:cD X w t sz v n G)(hn:0<n):∃ (k cap:Nat) (C:Array Value),v = .slice (some ⟨k,0,none⟩) n cap/\X.heap.size<=k/\ay w k C t/\n<=cap/\cap<=maxLen/\C.size=cap*sz/\∀ i,i<n*sz->C[i]?=some (G i):=by
 rcases h with⟨_,h⟩|h
 ·omega
 ·exact h
theorem cD.congr(h:cD X w t sz v n G)(e:∀ i,i<n*sz->G i=G' i):cD X w t sz v n G':=by
 rcases h with h|⟨k,cap,C,h1,h2,h3,h4,h5,h6,h7⟩
 ·exact Or.inl h
 ·exact Or.inr ⟨k,cap,C,h1,h2,h3,h4,h5,h6,fun i hi=>by rw[← e i hi];exact h7 i hi⟩
theorem cD.ext(h:cD X w t sz v n G)(e:Ext w w'):cD X w' t sz v n G:=by
 rcases h with h|⟨k,cap,C,h1,h2,h3,h4⟩
 ·exact Or.inl h
 ·exact Or.inr ⟨k,cap,C,h1,h2,h3.ext e,h4⟩
theorem cD.mv{Y w0:World}{S:Nat->Prop}(h:cD X w0 t sz v n G)(m:Mv Y w0 S w')(hs:∀ k,jf v k->¬ S k):cD X w' t sz v n G:=by
 rcases h with h|⟨k,cap,C,h1,h2,h3,h4⟩
 ·exact Or.inl h
 ·exact Or.inr ⟨k,cap,C,h1,h2,m.aH h3 (hs k (by rw[h1];exact dO.2 rfl)),h4⟩
theorem cD.lt(h:cD X w t sz v n G){k:Nat}(hk:jf v k):X.heap.size<=k/\k<w.heap.size:=by
 rcases h with⟨h,_⟩|⟨k',cap,C,h1,h2,h3,h4⟩
 ·rw[h] at hk;exact absurd hk pe
 ·rw[h1] at hk;rw[← dO.1 hk];exact⟨h2,h3.lt⟩
theorem cD.rd(h:cD X w t 1 v n G):Rd w v n G:=by
 rcases h with⟨rfl,rfl⟩|⟨k,cap,C,rfl,h2,h3,h4,h5,h6,h7⟩
 ·exact Rd.nil w G
 ·exact Rd.aH h3 h4 h5 (fun i hi=>h7 i ae)
end
def app(k:Nat)(G H:Nat->Value)(i:Nat):Value:=if i<k then G i else H (i-k)
theorem jF{k i:Nat}{G H:Nat->Value}(h:i<k):app k G H i=G i:=if_pos h
theorem gM{k i:Nat}{G H:Nat->Value}(h:¬ i<k):app k G H i=H (i-k):=if_neg h
theorem l5{n i:Nat}{G:Nat->Value}(h:i<n):((List.range n).map G)[i]?=some (G i):=by simp[h]
theorem Tu{a b i:Nat}{G H:Nat->Value}(h:i<a+b)(rest:List Value):((List.range a).map G ++ (List.range b).map H ++ rest)[i]?=some (app a G H i):=by
 by_cases hi:i<a
 ·rw[jF hi,List.append_assoc,List.getElem?_append_left (by simpa using hi)];exact l5 hi
 ·rw[gM hi,List.append_assoc,List.getElem?_append_right (by simpa using hi),List.getElem?_append_left (by simp;omega)];simp only[List.length_map,List.length_range];exact l5 ae
section
variable {P:Program} {X w:World} {e:TypeId} {z:Value} {sz bytes n m c cap:Nat} {v:Value} {G H:Nat->Value} {ad:Addr}
structure App(X w:World)(e:TypeId)(sz:Nat)(v:Value)(n m:Nat)(G H:Nat->Value)(v':Value)(w':World):Prop where
 own:cD X w' e sz v' (n+m) (app (n*sz) G H)
 mv:Mv X w (jf v) w'
 new:∀ k,jf v' k->jf v k∨w.heap.size<=k
theorem NF(hX:Ext X w){S:Nat->Prop}(hS:∀ k,S k->X.heap.size<=k)(o:Obj):Mv X w S (w.drew.alloc o):=((Mv.refl hX hS).drew).alloc o
theorem y9 (hX:Ext X w) (cs:Array Value) (hcm:cap<=maxLen) (wK:n+m<=cap) (gh:cs.size=cap*sz) (hc:∀ i,i<(n+m)*sz->cs[i]?=some (app (n*sz) G H i)) (hv:∀ k,jf v k->X.heap.size<=k) :
    App X w e sz v n m G H (.slice (some ⟨w.heap.size,0,none⟩) (n+m) cap) (w.drew.alloc (.cells cs e)) :=
 ⟨Or.inr ⟨_,_,cs,rfl,hX.size,ay.new _ _ _,wK,hcm,gh,hc⟩,NF hX hv _,fun k hk=>Or.inr (by rw[dO] at hk;omega)⟩
theorem xm{old:Nat}(xs ys:List Value)(hx:xs.length=n*sz)(hy:ys.length=m*sz)(hz:z.cells.size=sz)(hc:n+m<=cap):(xs.toArray ++ ys.toArray ++ Builtin.zeroCells z.cells (cap-(n+m))).size=cap*sz:=by
 simp only[Array.size_append,List.size_toArray,size_zeroCells,hz,hx,hy,← Nat.add_mul];congr 1;omega
theorem zA(zs:Array Value){a b i:Nat}(hi:i<a+b):(((List.range a).map G).toArray ++ ((List.range b).map H).toArray ++ zs)[i]?=some (app a G H i):=by
 have:=Tu (G:=G) (H:=H) hi zs.toList;rw[← Array.getElem?_toList];simpa using this
theorem Kf(hsrc:∀ j,j<m*sz->w.cell? (ad.add j)=some (H j)):∀ j u,((List.range (m*sz)).map H)[j]?=some u->w.cell? (ad.add j)=some u:=by
 intro j u hu;by_cases hj:j<m*sz
 ·rw[l5 hj] at hu;rw[hsrc j hj];exact hu
 ·rw[List.getElem?_eq_none (by simp;omega)] at hu;cases hu
theorem ie{k:Nat}{C:Array Value}{t:TypeId}(h:ay w k C t){j:Nat}{u:Value}(hu:C[j]?=some u):w.cell? ((⟨k,0,none⟩:Addr).add j)=some u:=by
 have e:(⟨k,0,none⟩:Addr).add j=⟨k,j,none⟩:=by unfold Addr.add;split <;> simp_all
 rw[e];exact h.cell j hu
theorem FN {t ty : TypeId} (ht : P.underlying t = some (.slice e)) (hi : (P.info? e).map (fun i => (i.zero, i.size, i.bytes)) = some (some z, sz, bytes)) (hzs : z.cells.size = sz)
    (hX:Ext X w) (h:cD X w e sz v n G) (rQ:v = .slice none 0 0->0<m) (hsrc:∀ j,j<m*sz->w.cell? (ad.add j)=some (H j)) (h1:∀ j,j<m*sz->(H j).oneCell'=true) (h63:n+m<=maxLen) (hb:(n+m)*bytes<=140737488355328) :
    ∃ v' w',(Builtin.append_ #[t,t] ty #[v,.slice (some ad) m c]).run P w = .ok v' w'/\App X w e sz v n m G H v' w':=by
 obtain⟨i,hi0,hi1⟩:∃ i,P.info? e=some i/\(i.zero,i.size,i.bytes)=(some z,sz,bytes):=by
  cases hh:P.info? e with
  | none=>rw[hh] at hi;cases hi
  | some i=>rw[hh] at hi;exact⟨i,rfl,Option.some.inj hi⟩
 simp only[Prod.mk.injEq] at hi1;obtain⟨hz,hs,Ur⟩:=hi1;subst hs;subst Ur;have SL:=Kf hsrc;have Xz:∀ u ∈ (List.range (m*i.size)).map H,u.oneCell'=true:=fun u hu=>by
  simp only[List.mem_map,List.mem_range] at hu;obtain⟨j,hj,rfl⟩:=hu;exact h1 j hj
 have qgj:n+m<=9223372036854775807:=by simp only[maxLen] at h63;omega
 have SG:∀ k,jf v k->X.heap.size<=k:=fun k hk=>(h.lt hk).1
 rcases h with⟨rfl,rfl⟩|⟨k,cap,C,rfl,hk,hB,wK,hcm,gh,hC⟩
 ·refine ⟨_,_,run_append_nil (P:=P) w t ty e i z ht hi0 hz ad m c _ (by simp) SL (rQ rfl) ae (by rw [Nat.zero_add] at hb;omega),?_⟩;have kx:=grownCap_ge w m 0 e;have Un:=rQ rfl;have:=y9 (G:=G) (H:=H) (n:=0) (m:=m) (sz:=i.size) (e:=e) (v:=.slice none 0 0) (cap:=grownCap w m 0 e) hX (((List.range (0*i.size)).map G).toArray ++ ((List.range (m*i.size)).map H).toArray ++ Builtin.zeroCells z.cells (grownCap w m 0 e-(0+m)))
   (grownCap_le_maxLen w m 0 e ae) ae (xm (old:=0) _ _ (by simp) (by simp) hzs ae) (fun j hj=>zA _ (by rw[← Nat.add_mul];exact hj)) SG
  simpa using this
 ·by_cases ou:n+m<=cap
  ·have GA:n*i.size+((List.range (m*i.size)).map H).length<=C.size:=by simp only[List.length_map,List.length_range];rw[gh,← Nat.add_mul];exact Nat.mul_le_mul_right _ ou
   refine⟨_,_,run_append_room (P:=P) w t ty e i ht hi0 k n cap C hB.out ad m c _ (by simp) SL Xz ou GA,?_,?_,?_⟩
   ·refine Or.inr ⟨k,cap,_,rfl,hk,hB.setRow,ou,hcm,?_,fun j hj=>?_⟩
    ·simp only[List.size_toArray,List.length_append,List.length_take,List.length_drop,Array.length_toList,List.length_map,List.length_range] at GA ⊢;omega
    ·have hl:(C.toList.take (n*i.size)).length=n*i.size:=by simp only[List.length_map,List.length_range] at GA;simp;omega
     rw[Nat.add_mul] at hj;simp only[List.getElem?_toArray];by_cases h1:j<n*i.size
     ·rw[jF h1,List.append_assoc,List.getElem?_append_left ae,List.getElem?_take,if_pos h1,Array.getElem?_toList];exact hC j h1
     ·rw[gM h1,List.append_assoc,List.getElem?_append_right ae,hl,List.getElem?_append_left (by simp;omega)];exact l5 ae
   ·exact(Mv.refl hX SG).setRow (Or.inl (dO.2 rfl)) hB
   ·exact fun k' KW=>Or.inl (dO.2 (dO.1 KW))
  ·have aP:n*i.size<=C.size:=by rw[gh];exact Nat.mul_le_mul_right _ wK
   have holds:∀ j u,((List.range (n*i.size)).map G)[j]?=some u->w.cell? ((⟨k,0,none⟩:Addr).add j)=some u:=fun j u hu=>by
    by_cases hj:j<n*i.size
    ·rw[l5 hj] at hu;rw[ie hB (hC j hj)];exact hu
    ·rw[List.getElem?_eq_none (by simp;omega)] at hu;cases hu
   refine⟨_,_,run_append_grow (P:=P) w t ty e i z ht hi0 hz ⟨k,0,none⟩ n cap _ (by simp) holds ad m c _ (by simp) SL ae ae (growslice_fits ae hb),?_⟩;have kx:=grownCap_ge w (n+m) cap e;exact y9 hX _ (grownCap_le_maxLen w (n+m) cap e h63) kx (xm (old:=0) _ _ (by simp) (by simp) hzs ae) (fun j hj=>zA _ (by rw[← Nat.add_mul];exact hj)) SG
theorem jx {o:Oper} {a:Act} {Q:Exit->Act->World->Prop} {K:Act->World->Prop} {s x:Operand} {t:TypeId} (ho:o.op = .call { callee:=.builtin .append,args:=#[s,x],argTypes:=#[t,t] })
    (hs:a.eval s=v) (hx:a.eval x = .slice (some ad) m c) (ht:P.underlying t=some (.slice e)) (hi:(P.info? e).map (fun i=>(i.zero,i.size,i.bytes))=some (some z,sz,bytes)) (hzs:z.cells.size=sz)
    (hX:Ext X w) (h:cD X w e sz v n G) (rQ:v = .slice none 0 0->0<m) (hsrc:∀ j,j<m*sz->w.cell? (ad.add j)=some (H j)) (h1:∀ j,j<m*sz->(H j).oneCell'=true) (h63:n+m<=maxLen) (hb:(n+m)*bytes<=140737488355328)
    (hK:∀ v' w',App X w e sz v n m G H v' w'->K (a.put o.dst v') w'):o.wp P a w K Q:=by
 obtain⟨v',w',hr,hA⟩:=FN (P:=P) (ty:=o.type) (c:=c) ht hi hzs hX h rQ hsrc h1 h63 hb;unfold Oper.wp execOp;simp only[ho,resolve,invoke,builtin,Sem.run_bind,Sem.run_pure,Result.andThen_ok,List.map_toArray,List.map_cons,List.map_nil,hs,hx,hr];exact hK v' w' hA
end
theorem Wj{q:Rat}(h:¬ q<0):0<=q:=by grind
theorem Kk{q:Rat}(h:q<0):decide (0<=q)=false:=by
 rw[decide_eq_false_iff_not];grind
theorem qaO(a b:Rat):(a<b/\il a b=-1)∨(a=b/\il a b=0)∨(b<a/\il a b=1):=by
 unfold il;by_cases h1:a<b
 ·exact Or.inl ⟨h1,if_pos h1⟩
 ·by_cases h2:a=b
  ·exact Or.inr (Or.inl ⟨h2,by rw[if_neg h1,if_pos h2]⟩)
  ·exact Or.inr (Or.inr ⟨by grind,by rw[if_neg h1,if_neg h2]⟩)
def mst(T:bT)(a:Nat)(r:Int):ByteArray:=if r<0 then⟨#[]⟩ else qs (T.ratio a r.toNat)
theorem IP{T:bT}{a:Nat}:mst T a (-1)=⟨#[]⟩:=if_pos af
theorem po{T:bT}{a i:Nat}:mst T a (i:Int)=qs (T.ratio a i):=by unfold mst;rw[if_neg ae,Int.toNat_natCast]
section
variable {P:LP} {T:bT} {a k i:Nat}
theorem So(P:LP)(T:bT)(a k:Nat):P.lv T a k=-1∨∃ i:Nat,i<k/\P.lv T a k=(i:Int):=by
 rcases uz P T a k with⟨h,_⟩|⟨i,h1,h2,_⟩
 ·exact Or.inl h
 ·exact Or.inr ⟨i,h1,h2⟩
theorem uA(h:¬ P.n<=T.b k∨0<=T.f k a):P.lv T a (k+1)=P.lv T a k:=by rw[LP.lv,if_pos h]
theorem NK(h1:P.n<=T.b k)(h2:T.f k a<0):¬ (¬ P.n<=T.b k∨0<=T.f k a):=fun h=>h.elim (fun h=>h h1) (fun h=>by grind)
theorem Du(h1:P.n<=T.b k)(h2:T.f k a<0)(e:P.lv T a k=-1):P.lv T a (k+1)=(k:Int):=by rw[LP.lv,if_neg (NK h1 h2),if_neg (fun h=>ae)]
def Kp(T:bT)(a i k:Nat):Prop:=T.ratio a i<T.ratio a k∨T.ratio a i=T.ratio a k/\T.b i<T.b k
theorem uB(h1:P.n<=T.b k)(h2:T.f k a<0)(e:P.lv T a k=(i:Int))(h:Kp T a i k):P.lv T a (k+1)=(i:Int):=by
 rw[LP.lv,if_neg (NK h1 h2),e,Int.toNat_natCast,if_pos ⟨ae,h⟩]
theorem uy(h1:P.n<=T.b k)(h2:T.f k a<0)(e:P.lv T a k=(i:Int))(h:¬ Kp T a i k):P.lv T a (k+1)=(k:Int):=by
 rw[LP.lv,if_neg (NK h1 h2),e,Int.toNat_natCast,if_neg (fun h'=>h h'.2)]
theorem qaE(h:T.ratio a k<T.ratio a i):¬ Kp T a i k:=fun h'=>h'.elim (fun x=>by grind) (fun x=>by grind)
theorem qbc(h:T.ratio a i<T.ratio a k):Kp T a i k:=Or.inl h
theorem qbd(h:T.ratio a k=T.ratio a i)(hb:T.b i<T.b k):Kp T a i k:=Or.inr ⟨h.symm,hb⟩
theorem qaF(h:T.ratio a k=T.ratio a i)(hb:¬ T.b i<T.b k):¬ Kp T a i k:=fun h'=>h'.elim (fun x=>by grind) (fun x=>hb x.2)
end
theorem St(P:LP)(T:bT)(p:Nat)(vb vl vo vw:Value)(vf:Nat->Value)(w:World)(at_:Nat){q:Nat}(g:Gd w)(hT:TR P T w p vb vl vo vw vf)(AX:at_<P.n)(hm:P.m<=1000)(Q:TQ P T q)(jo:1<=q)(kn:q<=400):Calls prog 206 #[.pointer (some ⟨p,0,none⟩),.int .i64 (at_:Int)] w (aZ w (.int .i64 (P.lv T at_ P.m))):=by
 have HG:=ai g;have yD:=ai AX;clear g AX;have JF:=ai Q.c;have uP:=ai Q.f;clear Q;have HQR:Hid (∀ i,i<P.m->QB (q+q) (T.ratio at_ i)):=ai (fun i hi=>(JF.o i hi).div (uP.o i hi at_ yD.o).neg jo);obtain⟨CP,b1,p0⟩:=hT.tab;obtain⟨bo,bc,rfl,Cm,zU,hb⟩:=hT.b;obtain⟨Uf,lc,rfl,Ck,Cj,hl⟩:=hT.l;obtain⟨oo,oc,rfl,Ch,Cg,ho⟩:=hT.o;obtain⟨wo,j4,rfl,Cd,Cc,hw⟩:=hT.wf;have HF:=ai hT.f;have TB:=ai hT;have jd:=ai b1;have ep:Hid (_/\_/\_/\_/\_/\_):=ai p0;have yx:=ai hb;have tR:=ai hl;have JE:=ai ho;have PK:=ai hw;clear b1 p0 hb hl ho hw hT Cm zU Ck Cj Ch Cg Cd Cc;have qbX:(at_:Int)<(P.n:Int):=by have:=yD.o;omega
 go_enter func206,ntmps206;have pT:=jd.o.cell (2) ep.o.2.2.1;go_wp2_with fail;clear pT;go_loopw [17,5,6] (fun bY qU x2_ wx=>∃ k:Nat,bY = .int .i64 k/\qU = .int .i64 (P.lv T at_ k)/\x2_ = .string (mst T at_ (P.lv T at_ k))/\k<=P.m/\Hid (Ext w wx)) (fun bY _ _ _=>P.m-(intOf bY).toNat)
 case atStart=>exact⟨0,rfl,rfl,by rw[LP.lv,IP],Nat.zero_le _,ai (Ext.refl w)⟩
 case round =>
  rename World=>w1
  obtain⟨k,rfl,rfl,rfl,mg,HH⟩:=hrel;have aD:=ai HH.o;have fG:=ai (jd.o.ext aD.o);clear HH;by_cases aP:k<P.m
  ·have fj:(k:Int)<((P.m:Nat):Int):=ae;obtain⟨ba,rfl,tw⟩:=yx.o k aP;have kU:=ai tw;clear tw;obtain⟨la,rfl,pW,q7⟩:=tR.o k aP;have xM:=ai pW;have kT:=ai q7;clear pW q7;obtain⟨fo,eh,qW,_,_,wO⟩:=HF.o k aP;obtain⟨fa,rfl,tu⟩:=wO at_ yD.o;rw[qW] at kT;have BS:=ai tu;clear tu wO qW;have si:=aC aD.o (xM.o);have dp:=aC aD.o (kT.o);by_cases h1:P.n<=T.b k
   ·have gQ:=ai h1;clear h1;by_cases h2:T.f k at_<0
    ·have h3:=Kk h2;have Fc:=ai h2;have HNZ:Hid (-T.f k at_≠0):=ai (by grind);clear h2;go_upto_region 6 with fail
     refine aB (fun W=>Ext w W/\ay W (p) (CP) 185/\ay W (w1.heap.size) (#[.string (qs (T.c k)),.slice (some fa) P.n eh]) 182) ⟨(aD.o.alloc _),(fG.o.alloc _),(ay.nw (#[.string (qs (T.c k)),.slice (some fa) P.n eh]) 182)⟩ ?_;rintro w2 ⟨e2,lD,dx⟩;have aM:=ai e2;have dr:=ai lD;have az:=ai dx;have aF:Hid (w.heap.size<=w1.heap.size):=ai (aD.o.size);clear e2 lD dx si dp;have oH:=dr.o.cell (1) ep.o.2.1;have mn:=aC aM.o (kU.o);go_wp2_with fail;refine(cz (n:=P.n) p (T.b k) true _ (dr.o) ep.o.1 (by have:=gQ.out;simp;omega)).mono ?_;rintro e _ ⟨rfl,rfl⟩;clear oH mn;have aI:=az.o.cell 1 rfl;have gy:=aC aM.o (BS.o);go_wp2_with fail;refine(cr (T.f k at_) _).mono ?_;rintro e _ ⟨rfl,rfl⟩;clear aI gy;go_wp2_with fail;refine aE [.val (.pointer (some ⟨w1.heap.size,0,none⟩)),.val (.string (qs (T.c k))),.val (.pointer (some ⟨w1.heap.size,1,none⟩)),.val (.slice (some fa) P.n eh),.val (.int .i64 (at_:Int)),.val (.pointer (some (fa.add at_))),.val (.string (qs (T.f k at_))),.val (.string (qs (-T.f k at_))),.val (.tuple #[.string (qs (T.c k / -T.f k at_)),.int .i64 0]),.val (.tuple #[.string (qs (T.c k / -T.f k at_)),.int .i64 0]),.val (.string (qs (T.c k / -T.f k at_))),.val (.int .i64 0),.val (.string (qs (T.c k / -T.f k at_))),.val (.int .i64 0)] (fun L g W=>True) (S:=fun _=>False) ag ag ag (Mv.refl aM.o (fun k h=>h.elim)) ?_ ?_ ?_ ?_ (fun fI w3 aK bW=>?_)
     ·exact fun _=>trivial
     ·exact fun _ _ _ _ h _=>h
     ·exact fun _ _ _ _ _ _ h=>h
     ·skip
      exact RI 8 (.pointer (some ⟨w1.heap.size,0,none⟩))<|J2 (fun aw=>aw.val 0) (fun aw=>(aw.mv.aH az.o (fun h=>h)).cell 0 rfl)<|RI 8 (.pointer (some ⟨w1.heap.size,0,none⟩))<|J2 (fun aw=>aw.val 2) (fun aw=>(aw.mv.aH az.o (fun h=>h)).cell 1 rfl)<|RI 1 (.int .i64 (at_:Int))<|R2 3 4<|J2 (fun aw=>aw.val 5) (fun aw=>aC aw.mv.ext (BS.o))<|K1 (fun aw=>aw.val 6) (fun _=>dS (T.f k at_) _ (uP.o k aP at_ yD.o) ae)<|K2 (fun aw=>aw.val 1) (fun aw=>aw.val 7) (fun aw=>sN (T.c k) (-T.f k at_) _ (HG.o.ext aw.mv.ext) (JF.o k aP) (uP.o k aP at_ yD.o).neg ae ae ae HNZ.o)<|R1 8<|R1 9<|R1 9<|R1 10<|R1 11<|aN.nil
     simp only[gm,Ke.value,b7,Act.put,aq,au,av];have bA:Hid (Ext w w3):=ai aK.ext;have gD:=ai (aK.aH dr.o (fun h=>h));clear aK bW;go_upto_region 9 with fail
     rcases So P T at_ k with e0|⟨i0,z1,e0⟩
     ·rw[e0,IP];have HE:=ai e0;clear e0;go_wp2_with fail;go_roundw
      case rel=>exact⟨k+1,by go_num,by rw[Du gQ.out Fc.o HE.o],by rw[Du gQ.out Fc.o HE.o,po];rfl,ae,ai bA.o⟩
      case measure=>simp[intOf];omega
     ·rw[e0,po];have HE:=ai e0;have hi0:=z1;clear e0 z1;have dX:(0:Int)<=(i0:Int):=ae;have hi2:(i0:Int)<(P.m:Int):=ae;go_wp2_with fail;refine cto (kD (T.c k / -T.f k at_) (T.ratio at_ i0) _ (HG.o.ext (bA.o)) ((JF.o k aP).div (uP.o k aP at_ yD.o).neg ae) (HQR.o i0 ae) ae ae) fun w4 e4=>?_
      have bO:=ai (bA.o.trans e4);have iJ:=ai (gD.o.ext e4);clear e4;go_upto_region 11 with fail
      have Qf:=ai (Jz (yx.o i0 ae));rcases qaO (T.ratio at_ k) (T.ratio at_ i0) with⟨c1,c2⟩|⟨c1,c2⟩|⟨c1,c2⟩
      ·have LZ:=ai (qaE c1);rw[show il (T.c k / -T.f k at_) (T.ratio at_ i0)=(-1) from c2];clear c1 c2;go_wp2_with fail;refine aE [.val (.int .i64 (-1)),.val (.bool false),.val (.bool false),.val (.int .i64 (-1)),.val (.bool false),.val (.bool false),.off,.off,.off,.off,.off,.off,.off,.off,.off,.off,.off,.off,.off,.off,.off,.val (.bool false),.val (.bool false)] (fun L g W=>True) (S:=fun _=>False) ag ag ag (Mv.refl bO.o (fun k h=>h.elim)) ?_ ?_ ?_ ?_ (fun fI w5 aK bW=>?_)
       ·exact fun _=>trivial
       ·exact fun _ _ _ _ h _=>h
       ·exact fun _ _ _ _ _ _ h=>h
       ·skip
        exact RI 11 (.int .i64 (-1))<|R1 0<|R1 1<|RI 11 (.int .i64 (-1))<|R1 3<|R1 4<|RO<|RO<|RO<|RO<|RO<|RO<|RO<|RO<|RO<|RO<|RO<|RO<|RO<|RO<|RO<|J2 (fun aw=>aw.val 5) (fun aw=>aw.un 20)<|R2 2 21<|aN.nil
       simp only[gm,Ke.value,b7,Act.put,aq,au,av];have cX:Hid (Ext w w5):=ai aK.ext;have xQ:=ai (aK.aH iJ.o (fun h=>h));clear aK bW;go_wp2_with fail;go_roundw
       case rel=>exact⟨k+1,by go_num,by rw[uy gQ.out Fc.o HE.o LZ.o],by rw[uy gQ.out Fc.o HE.o LZ.o,po];rfl,ae,ai cX.o⟩
       case measure=>simp[intOf];omega
      ·by_cases hb:T.b i0<T.b k
       ·have HKP:=ai (qbd c1 hb);have Ut:((T.b i0:Nat):Int)<((T.b k:Nat):Int):=ae;clear hb;rw[show il (T.c k / -T.f k at_) (T.ratio at_ i0)=0 from c2];clear c1 c2;go_wp2_with fail;refine aE [.val (.int .i64 0),.val (.bool false),.val (.bool false),.val (.int .i64 0),.val (.bool true),.val (.bool true),.val (.pointer (some ⟨p,0,none⟩)),.val (.pointer (some ⟨p,0,none⟩)),.val (.pointer (some ⟨p,1,none⟩)),.val (.slice (some ba) P.m bc),.val (.int .i64 (k:Int)),.val (.pointer (some (ba.add k))),.val (.int .i64 (T.b k:Int)),.val (.pointer (some ⟨p,0,none⟩)),.val (.pointer (some ⟨p,0,none⟩)),.val (.pointer (some ⟨p,1,none⟩)),.val (.slice (some ba) P.m bc),.val (.int .i64 (i0:Int)),.val (.pointer (some (ba.add i0))),.val (.int .i64 (T.b i0:Int)),.val (.bool true),.val (.bool true),.val (.bool true)] (fun L g W=>True) (S:=fun _=>False) ag ag ag (Mv.refl bO.o (fun k h=>h.elim)) ?_ ?_ ?_ ?_ (fun fI w5 aK bW=>?_)
        ·exact fun _=>trivial
        ·exact fun _ _ _ _ h _=>h
        ·exact fun _ _ _ _ _ _ h=>h
        ·skip
         exact RI 11 (.int .i64 0)<|R1 0<|R1 1<|RI 11 (.int .i64 0)<|R1 3<|R1 4<|RI 0 (.pointer (some ⟨p,0,none⟩))<|R1 6<|R1 7<|J2 (fun aw=>aw.val 8) (fun aw=>(aw.mv.aH iJ.o (fun h=>h)).cell (1) ep.o.2.1)<|RI 7 (.int .i64 (k:Int))<|R2 9 10<|J2 (fun aw=>aw.val 11) (fun aw=>aC aw.mv.ext (kU.o))<|RI 0 (.pointer (some ⟨p,0,none⟩))<|R1 13<|R1 14<|J2 (fun aw=>aw.val 15) (fun aw=>(aw.mv.aH iJ.o (fun h=>h)).cell (1) ep.o.2.1)<|RI 5 (.int .i64 (i0:Int))<|R2 16 17<|J2 (fun aw=>aw.val 18) (fun aw=>aC aw.mv.ext (Qf.o))<|R2 12 19<|R2 5 20<|R2 2 21<|aN.nil
        simp only[gm,Ke.value,b7,Act.put,aq,au,av];have cX:Hid (Ext w w5):=ai aK.ext;have xQ:=ai (aK.aH iJ.o (fun h=>h));clear aK bW;go_wp2_with fail;go_roundw
        case rel=>exact⟨k+1,by go_num,by rw[uB gQ.out Fc.o HE.o HKP.o],by rw[uB gQ.out Fc.o HE.o HKP.o,po],ae,ai cX.o⟩
        case measure=>simp[intOf];omega
       ·have LZ:=ai (qaF c1 hb);have Ut:decide (T.b i0<T.b k)=false:=decide_eq_false hb;clear hb;rw[show il (T.c k / -T.f k at_) (T.ratio at_ i0)=0 from c2];clear c1 c2;go_wp2_with fail;refine aE [.val (.int .i64 0),.val (.bool false),.val (.bool false),.val (.int .i64 0),.val (.bool true),.val (.bool true),.val (.pointer (some ⟨p,0,none⟩)),.val (.pointer (some ⟨p,0,none⟩)),.val (.pointer (some ⟨p,1,none⟩)),.val (.slice (some ba) P.m bc),.val (.int .i64 (k:Int)),.val (.pointer (some (ba.add k))),.val (.int .i64 (T.b k:Int)),.val (.pointer (some ⟨p,0,none⟩)),.val (.pointer (some ⟨p,0,none⟩)),.val (.pointer (some ⟨p,1,none⟩)),.val (.slice (some ba) P.m bc),.val (.int .i64 (i0:Int)),.val (.pointer (some (ba.add i0))),.val (.int .i64 (T.b i0:Int)),.val (.bool false),.val (.bool false),.val (.bool false)] (fun L g W=>True) (S:=fun _=>False) ag ag ag (Mv.refl bO.o (fun k h=>h.elim)) ?_ ?_ ?_ ?_ (fun fI w5 aK bW=>?_)
        ·exact fun _=>trivial
        ·exact fun _ _ _ _ h _=>h
        ·exact fun _ _ _ _ _ _ h=>h
        ·skip
         exact RI 11 (.int .i64 0)<|R1 0<|R1 1<|RI 11 (.int .i64 0)<|R1 3<|R1 4<|RI 0 (.pointer (some ⟨p,0,none⟩))<|R1 6<|R1 7<|J2 (fun aw=>aw.val 8) (fun aw=>(aw.mv.aH iJ.o (fun h=>h)).cell (1) ep.o.2.1)<|RI 7 (.int .i64 (k:Int))<|R2 9 10<|J2 (fun aw=>aw.val 11) (fun aw=>aC aw.mv.ext (kU.o))<|RI 0 (.pointer (some ⟨p,0,none⟩))<|R1 13<|R1 14<|J2 (fun aw=>aw.val 15) (fun aw=>(aw.mv.aH iJ.o (fun h=>h)).cell (1) ep.o.2.1)<|RI 5 (.int .i64 (i0:Int))<|R2 16 17<|J2 (fun aw=>aw.val 18) (fun aw=>aC aw.mv.ext (Qf.o))<|R2 12 19<|R2 5 20<|R2 2 21<|aN.nil
        simp only[gm,Ke.value,b7,Act.put,aq,au,av];have cX:Hid (Ext w w5):=ai aK.ext;have xQ:=ai (aK.aH iJ.o (fun h=>h));clear aK bW;go_wp2_with fail;go_roundw
        case rel=>exact⟨k+1,by go_num,by rw[uy gQ.out Fc.o HE.o LZ.o],by rw[uy gQ.out Fc.o HE.o LZ.o,po];rfl,ae,ai cX.o⟩
        case measure=>simp[intOf];omega
      ·have HKP:=ai (qbc c1);rw[show il (T.c k / -T.f k at_) (T.ratio at_ i0)=1 from c2];clear c1 c2;go_wp2_with fail;refine aE [.val (.int .i64 1),.val (.bool true),.val (.bool true),.off,.off,.off,.off,.off,.off,.off,.off,.off,.off,.off,.off,.off,.off,.off,.off,.off,.off,.off,.val (.bool true)] (fun L g W=>True) (S:=fun _=>False) ag ag ag (Mv.refl bO.o (fun k h=>h.elim)) ?_ ?_ ?_ ?_ (fun fI w5 aK bW=>?_)
       ·exact fun _=>trivial
       ·exact fun _ _ _ _ h _=>h
       ·exact fun _ _ _ _ _ _ h=>h
       ·skip
        exact RI 11 (.int .i64 1)<|R1 0<|R1 1<|RO<|RO<|RO<|RO<|RO<|RO<|RO<|RO<|RO<|RO<|RO<|RO<|RO<|RO<|RO<|RO<|RO<|RO<|RO<|J2 (fun aw=>aw.val 2) (fun aw=>aw.un 21)<|aN.nil
       simp only[gm,Ke.value,b7,Act.put,aq,au,av];have cX:Hid (Ext w w5):=ai aK.ext;have xQ:=ai (aK.aH iJ.o (fun h=>h));clear aK bW;go_wp2_with fail;go_roundw
       case rel=>exact⟨k+1,by go_num,by rw[uB gQ.out Fc.o HE.o HKP.o],by rw[uB gQ.out Fc.o HE.o HKP.o,po],ae,ai cX.o⟩
       case measure=>simp[intOf];omega
    ·have h3:=Wj h2;have HSK:Hid (¬ P.n<=T.b k∨0<=T.f k at_):=ai (Or.inr (by grind));clear h2;go_upto_region 6 with fail
     refine aB (fun W=>Ext w W/\ay W (p) (CP) 185/\ay W (w1.heap.size) (#[.string (qs (T.c k)),.slice (some fa) P.n eh]) 182) ⟨(aD.o.alloc _),(fG.o.alloc _),(ay.nw (#[.string (qs (T.c k)),.slice (some fa) P.n eh]) 182)⟩ ?_;rintro w2 ⟨e2,lD,dx⟩;have aM:=ai e2;have dr:=ai lD;have az:=ai dx;have aF:Hid (w.heap.size<=w1.heap.size):=ai (aD.o.size);clear e2 lD dx si dp;have oH:=dr.o.cell (1) ep.o.2.1;have mn:=aC aM.o (kU.o);go_wp2_with fail;refine(cz (n:=P.n) p (T.b k) true _ (dr.o) ep.o.1 (by have:=gQ.out;simp;omega)).mono ?_;rintro e _ ⟨rfl,rfl⟩;clear oH mn;have aI:=az.o.cell 1 rfl;have gy:=aC aM.o (BS.o);go_wp2_with fail;refine(cr (T.f k at_) _).mono ?_;rintro e _ ⟨rfl,rfl⟩;clear aI gy;go_wp2_with fail;go_roundw
     case rel=>exact⟨k+1,by go_num,by rw[uA HSK.o],by rw[uA HSK.o],ae,ai aM.o⟩
     case measure=>simp[intOf];omega
   ·have gQ:=ai h1;have HSK:Hid (¬ P.n<=T.b k∨0<=T.f k at_):=ai (Or.inl h1);clear h1;go_upto_region 6 with fail
    refine aB (fun W=>Ext w W/\ay W (p) (CP) 185/\ay W (w1.heap.size) (#[.string (qs (T.c k)),.slice (some fa) P.n eh]) 182) ⟨(aD.o.alloc _),(fG.o.alloc _),(ay.nw (#[.string (qs (T.c k)),.slice (some fa) P.n eh]) 182)⟩ ?_;rintro w2 ⟨e2,lD,dx⟩;have aM:=ai e2;have dr:=ai lD;have az:=ai dx;have aF:Hid (w.heap.size<=w1.heap.size):=ai (aD.o.size);clear e2 lD dx si dp;have oH:=dr.o.cell (1) ep.o.2.1;have mn:=aC aM.o (kU.o);go_wp2_with fail;refine(cz (n:=P.n) p (T.b k) false _ (dr.o) ep.o.1 (by have:=gQ.out;simp;omega)).mono ?_;rintro e _ ⟨rfl,rfl⟩;clear oH mn;go_wp2_with fail;go_roundw
    case rel=>exact⟨k+1,by go_num,by rw[uA HSK.o],by rw[uA HSK.o],ae,ai aM.o⟩
    case measure=>simp[intOf];omega
  ·have eY:k=P.m:=ae;have kx:¬ (k:Int)<((P.m:Nat):Int):=ae;go_wp2;go_ret;exact⟨rfl,aD.o⟩
def Mkf(w:World)(n:Nat)(g:Nat->Value)(t:TypeId)(e:Ending)(w':World):Prop:=∃ (k:Nat) (C:Array Value),e = .returned (.slice (some ⟨k,0,none⟩) n n)/\Ext w w'/\w.heap.size<=k/\ay w' k C t/\∀ j,j<n->C[j]?=some (g j)
def Mka(w:World)(n:Nat)(g:Nat->Value)(t:TypeId)(e:Ending)(w':World):Prop:=∃ (k:Nat) (C:Array Value),e = .returned (.agg #[.slice (some ⟨k,0,none⟩) n n])/\Ext w w'/\w.heap.size<=k/\ay w' k C t/\∀ j,j<n->C[j]?=some (g j)
section
variable {P:LP} {T:bT} {k d row at_ q:Nat} {s:Rat} {gl:Nat->Rat} {C:Array Value}
theorem kP{n d:Nat}{u:Value}{f f':Nat->Value}(h:∀ j,j<n->C[j]?=some (f j))(hu:d<n->f' d=u)(hf:∀ j,j<n->j≠d->f' j=f j)(j:Nat)(hj:j<n):(C.setIfInBounds d u)[j]?=some (f' j):=by
 by_cases e:j=d
 ·subst e;rw[hu hj];exact mM (h j hj)
 ·rw[j5 (Ne.symm e) (h j hj),hf j hj e]
theorem R7(hb:P.n<=T.b k)(h:∀ j,j<P.n->C[j]?=some (.string (qs (P.pt T k j))))(j:Nat)(hj:j<P.n):C[j]?=some (.string (qs (P.pt T (k+1) j))):=by
 rw[LP.pt,if_neg ae];exact h j hj
theorem WO(hb:T.b k<P.n)(h:∀ j,j<P.n->C[j]?=some (.string (qs (P.pt T k j)))):∀ j,j<P.n->(C.setIfInBounds (T.b k) (.string (qs (T.c k))))[j]?=some (.string (qs (P.pt T (k+1) j))) :=
 kP h (fun _=>by rw[LP.pt,if_pos rfl]) (fun j _ hj=>by rw[LP.pt,if_neg (fun e=>hj e.symm)])
theorem Tf{m:Nat}(hb:T.o k<P.n)(h:∀ j,j<m->C[j]?=some (.string (qs (P.dl T gl k j))))(j:Nat)(hj:j<m):C[j]?=some (.string (qs (P.dl T gl (k+1) j))):=by
 rw[LP.dl,if_neg ae];exact h j hj
theorem Yo{m:Nat}(hd:T.o k=P.n+d)(h:∀ j,j<m->C[j]?=some (.string (qs (P.dl T gl k j)))):∀ j,j<m->(C.setIfInBounds d (.string (qs (gl k))))[j]?=some (.string (qs (P.dl T gl (k+1) j))) :=
 kP h (fun _=>by rw[LP.dl,if_pos hd]) (fun j _ hj=>by rw[LP.dl,if_neg (fun e=>hj ae)])
theorem Jr(hq:1<=q)(h:∀ j,j<P.n->QB q (gl j)):∀ k i,k<=P.n->QB q (P.dl T gl k i)
 | 0,_,_=>QB0.mono hq
 | k+1,i,hk=>by rw[LP.dl];exact sR (h k ae) (Jr hq h k i ae)
theorem Sj{m:Nat}{f:Nat->Rat}(hk:k<m)(h:∀ j,j<m->C[j]?=some (.string (qs (if j<k then -f j else f j)))):∀ j,j<m->(C.setIfInBounds k (.string (qs (-f k))))[j]?=some (.string (qs (if j<k+1 then -f j else f j))) :=
 kP h (fun _=>by rw[if_pos (Nat.lt_succ_self k)]) (fun j _ hj=>by
  by_cases h1:j<k
  ·rw[if_pos h1,if_pos ae]
  ·rw[if_neg h1,if_neg ae])
theorem RP (hd:T.b row=P.n+d) (hk:k=P.m) (h:∀ j,j<P.m->C[j]?=some (.string (qs (if j<k then -P.dl T (T.f row) P.n j else P.dl T (T.f row) P.n j)))) :
    ∀ j,j<P.m->(C.setIfInBounds d (.string ⟨#[49]⟩))[j]?=some (.string (qs (P.ref T row j))) :=
 kP h (fun _=>by rw[LP.ref,if_pos hd,sP]) (fun j hj c8=>by rw[LP.ref,if_neg (fun e=>c8 ae),if_pos ae])
theorem TY(hb:P.n<=T.o at_)(h:∀ j,j<P.n->C[j]?=some (.string ⟨#[48]⟩))(j:Nat)(hj:j<P.n):C[j]?=some (.string (qs (P.ry T s at_ 0 j))):=by
 rw[LP.ry,if_neg ae,df];exact h j hj
theorem MI{z:Rat}{bs:ByteArray}(hs:s=z)(hz:qs z=bs)(h:∀ j,j<P.n->C[j]?=some (.string ⟨#[48]⟩)):∀ j,j<P.n->(C.setIfInBounds (T.o at_) (.string bs))[j]?=some (.string (qs (P.ry T s at_ 0 j))) :=
 kP (f:=fun _ => .string ⟨#[48]⟩) h (fun _=>by rw[LP.ry,if_pos rfl,hs,hz]) (fun j _ hj=>by rw[LP.ry,if_neg (fun e=>hj e.symm),df])
theorem uu(hb:P.n<=T.b k)(h:∀ j,j<P.n->C[j]?=some (.string (qs (P.ry T s at_ k j))))(j:Nat)(hj:j<P.n):C[j]?=some (.string (qs (P.ry T s at_ (k+1) j))):=by
 rw[LP.ry,if_neg ae];exact h j hj
theorem Aj(h:∀ j,j<P.n->C[j]?=some (.string (qs (P.ry T s at_ k j)))):∀ j,j<P.n->(C.setIfInBounds (T.b k) (.string (qs (s*T.f k at_))))[j]?=some (.string (qs (P.ry T s at_ (k+1) j))) :=
 kP h (fun _=>by rw[LP.ry,if_pos rfl]) (fun j _ hj=>by rw[LP.ry,if_neg (fun e=>hj e.symm)])
end
def FI(x:Rat):Rat:=if 0<x then -1 else 1
theorem MU(s x:Rat){m:Nat}(w:World)(g:Gd w)(hs:s=1)(qb:QB m x)(hm:m<=3000):Calls prog 116 #[.string ⟨#[49]⟩,.string (qs x)] w (aZ w (.string (qs (s*x)))):=by
 have h:=de 1 x w g QB1 qb ae hm;rw[sP] at h;rw[hs];exact h
theorem Iz(s x:Rat){m:Nat}(w:World)(g:Gd w)(hs:s=-1)(qb:QB m x)(hm:m<=3000):Calls prog 116 #[.string ⟨#[45,49]⟩,.string (qs x)] w (aZ w (.string (qs (s*x)))):=by
 have h:=de (-1) x w g QB1.neg qb ae hm;rw[vQ] at h;rw[hs];exact h
theorem Au(P:LP)(T:bT)(p:Nat)(vb vl vo vw:Value)(vf:Nat->Value)(w:World){q:Nat}(g:Gd w)(hT:TR P T w p vb vl vo vw vf)(hn:P.n<=1000)(hm:P.m<=1000):Calls prog 126 #[.pointer (some ⟨p,0,none⟩)] w (Mkf w P.n (fun j => .string (qs (P.pt T P.m j))) 34):=by
 have HG:=ai g;clear g;have JF:Hid True:=ai trivial;obtain⟨CP,b1,p0⟩:=hT.tab;obtain⟨bo,bc,rfl,Cm,zU,hb⟩:=hT.b;obtain⟨Uf,lc,rfl,Ck,Cj,hl⟩:=hT.l;obtain⟨oo,oc,rfl,Ch,Cg,ho⟩:=hT.o;obtain⟨wo,j4,rfl,Cd,Cc,hw⟩:=hT.wf;have HF:=ai hT.f;have TB:=ai hT;have jd:=ai b1;have ep:Hid (_/\_/\_/\_/\_/\_):=ai p0;have yx:=ai hb;have tR:=ai hl;have JE:=ai ho;have PK:=ai hw;clear b1 p0 hb hl ho hw hT Cm zU Ck Cj Ch Cg Cd Cc;go_enter func126,ntmps126;have Hc:=jd.o.cell (0) ep.o.1;go_wp2_with fail;refine(mI P.n ae _).mono ?_;rintro e w1 ⟨kz,CZ,rfl,e1,g_,b_,c_⟩;have gz:Hid (p≠kz):=ai (Nat.ne_of_lt (Nat.lt_of_lt_of_le jd.o.lt g_));have dE:Hid (w.heap.size<=kz):=ai (Nat.le_trans (Ext.refl w).size g_);have aD:Hid (Ext w w1):=ai ((Ext.refl w).trans e1);have fG:=ai (jd.o.ext e1);clear e1 Hc;have mA:=ai b_;have o7:=ai c_;clear g_ b_ c_;have oH:=fG.o.cell (1) ep.o.2.1;go_wp2_with fail;clear oH;go_loopw [16] (fun bY wx=>∃ k:Nat,bY = .int .i64 k/\k<=P.m/\Hid (Ext w wx/\(∃ CK,ay wx kz CK 34/\∀ j,j<P.n->CK[j]?=some (.string (qs (P.pt T k j)))))) (fun bY _=>P.m-(intOf bY).toNat)
 case atStart=>exact⟨0,rfl,Nat.zero_le _,ai ⟨aD.o,⟨_,mA.o,fun j hj=>by rw[LP.pt,df];exact o7.o j hj⟩⟩⟩
 case round =>
  rename World=>w2
  obtain⟨k,rfl,mg,HH⟩:=hrel;have aM:=ai HH.o.1;have dr:=ai (jd.o.ext aM.o);obtain⟨CK,gC,gY⟩:=HH.o.2;have eu:=ai gC;have jb:=ai gY;clear gC gY;clear HH;by_cases aP:k<P.m
  ·have fj:(k:Int)<((P.m:Nat):Int):=ae;obtain⟨ba,rfl,tw⟩:=yx.o k aP;have kU:=ai tw;clear tw;have mn:=aC aM.o (kU.o);by_cases h1:P.n<=T.b k
   ·have gQ:=ai h1;clear h1;go_wp2_with fail;refine(cz (n:=P.n) p (T.b k) true _ (dr.o) ep.o.1 (by have:=gQ.out;simp;omega)).mono ?_;rintro e _ ⟨rfl,rfl⟩;clear mn;go_wp2_with fail;go_roundw
    case rel=>exact⟨k+1,by go_num,ae,ai ⟨aM.o,⟨_,eu.o,R7 gQ.out jb.o⟩⟩⟩
    case measure=>simp[intOf];omega
   ·have gQ:=ai h1;clear h1;have Ut:((T.b k:Nat):Int)<((P.n:Nat):Int):=by have:=gQ.out;omega
    obtain⟨la,rfl,pW,q7⟩:=tR.o k aP;have xM:=ai pW;have kT:=ai q7;clear pW q7;go_wp2_with fail;refine(cz (n:=P.n) p (T.b k) false _ (dr.o) ep.o.1 (by have:=gQ.out;simp;omega)).mono ?_;rintro e _ ⟨rfl,rfl⟩;clear mn;have pT:=dr.o.cell (2) ep.o.2.2.1;have si:=aC aM.o (xM.o);have sf:=eu.o.cell (T.b k) (jb.o (T.b k) (by have:=gQ.out;omega));have rY:=eu.o.free (T.b k);go_wp2_with fail;go_roundw
    case rel=>exact⟨k+1,by go_num,ae,ai ⟨(aM.o.setCell dE.o _),⟨_,(eu.o.set (T.b k) (.string (qs (T.c k)))),WO (by have:=gQ.out;omega) jb.o⟩⟩⟩
    case measure=>simp[intOf];omega
  ·have eY:k=P.m:=ae;have kx:¬ (k:Int)<((P.m:Nat):Int):=ae;go_wp2;go_ret;exact⟨kz,CK,rfl,aM.o,dE.o,eu.o,fun j hj=>by rw[← eY];exact jb.o j hj⟩
theorem O3(P:LP)(T:bT)(p:Nat)(vb vl vo vw:Value)(vf:Nat->Value)(w:World)(cb:ByteArray)(vg:Value)(gl:Nat->Rat)(g:Gd w)(hT:TR P T w p vb vl vo vw vf)(hg:Rq w vg P.n gl)(hol:∀ j,j<P.n->T.o j<P.n+P.m)(hn:P.n<=1000)(hm:P.m<=1000):Calls prog 128 #[.pointer (some ⟨p,0,none⟩),.agg #[.string cb,vg],.int .i64 (P.m:Int)] w (Mkf w P.m (fun j => .string (qs (P.dl T gl P.n j))) 34):=by
 have HG:=ai g;have HOL:=ai hol;clear g hol;have JF:Hid True:=ai trivial;obtain⟨CP,b1,p0⟩:=hT.tab;obtain⟨bo,bc,rfl,Cm,zU,hb⟩:=hT.b;obtain⟨Uf,lc,rfl,Ck,Cj,hl⟩:=hT.l;obtain⟨oo,oc,rfl,Ch,Cg,ho⟩:=hT.o;obtain⟨wo,j4,rfl,Cd,Cc,hw⟩:=hT.wf;have HF:=ai hT.f;have TB:=ai hT;have jd:=ai b1;have ep:Hid (_/\_/\_/\_/\_/\_):=ai p0;have yx:=ai hb;have tR:=ai hl;have JE:=ai ho;have PK:=ai hw;clear b1 p0 hb hl ho hw hT Cm zU Ck Cj Ch Cg Cd Cc;obtain⟨go_,OI,rfl,zg1,zg2,hgg⟩:=hg;have Zc:=ai hgg;clear zg1 zg2 hgg;go_enter func128,ntmps128;go_wp2_with fail;refine(mI P.m ae _).mono ?_;rintro e w1 ⟨kz,CZ,rfl,e1,g_,b_,c_⟩;have gz:Hid (p≠kz):=ai (Nat.ne_of_lt (Nat.lt_of_lt_of_le (jd.o.alloc _).lt g_));have lX:Hid (w.heap.size≠kz):=ai (Nat.ne_of_lt (Nat.lt_of_lt_of_le (ay.nw (#[.string cb,.slice go_ P.n OI]) 182).lt g_));have dE:Hid (w.heap.size<=kz):=ai (Nat.le_trans ((Ext.refl w).alloc _).size g_);have aD:Hid (Ext w w1):=ai (((Ext.refl w).alloc _).trans e1);have fG:Hid (ay w1 (p) (CP) 185):=ai (((jd.o.alloc _)).ext e1);have ax:Hid (ay w1 (w.heap.size) (#[.string cb,.slice go_ P.n OI]) 182):=ai (((ay.nw (#[.string cb,.slice go_ P.n OI]) 182)).ext e1);have aF:Hid (w.heap.size<=w.heap.size):=ai (Nat.le_refl _);clear e1;have mA:=ai b_;have o7:=ai c_;clear g_ b_ c_;have Bm:=fG.o.cell (3) ep.o.2.2.2.1;go_wp2_with fail;clear Bm;go_loopw [17] (fun bY wx=>∃ k:Nat,bY = .int .i64 k/\k<=P.n/\Hid (Ext w wx/\ay wx (w.heap.size) (#[.string cb,.slice go_ P.n OI]) 182/\(∃ CK,ay wx kz CK 34/\∀ j,j<P.m->CK[j]?=some (.string (qs (P.dl T gl k j)))))) (fun bY _=>P.n-(intOf bY).toNat)
 case atStart=>exact⟨0,rfl,Nat.zero_le _,ai ⟨aD.o,ax.o,⟨_,mA.o,fun j hj=>by rw[LP.dl,df];exact o7.o j hj⟩⟩⟩
 case round =>
  rename World=>w2
  obtain⟨k,rfl,mg,HH⟩:=hrel;have aM:=ai HH.o.1;have dr:=ai (jd.o.ext aM.o);have az:=ai HH.o.2.1;obtain⟨CK,gC,gY⟩:=HH.o.2.2;have eu:=ai gC;have jb:=ai gY;clear gC gY;clear HH;by_cases aP:k<P.n
  ·have fj:(k:Int)<((P.n:Nat):Int):=ae;obtain⟨oa,rfl,Cf⟩:=JE.o k aP;have qdI:=ai Cf;clear Cf;have qcr:=aC aM.o (qdI.o);by_cases h1:P.n<=T.o k
   ·have gQ:=ai h1;clear h1;obtain⟨d,hd⟩:∃ d,T.o k=P.n+d:=⟨T.o k-P.n,by have:=gQ.out;omega⟩
    have hdm:d<P.m:=by have:=HOL.o k aP;omega
    have aw:((T.o k:Nat):Int)-((P.n:Nat):Int)=((d:Nat):Int):=ae;have GF:(d:Int)<((P.m:Nat):Int):=ae;have HD:=ai hd;clear hd;obtain⟨ga,rfl,zg_⟩:=Zc.o k aP;have HCg:=ai zg_;clear zg_;go_wp2_with fail;refine(cz (n:=P.n) p (T.o k) true _ (dr.o) ep.o.1 (by have:=gQ.out;simp;omega)).mono ?_;rintro e _ ⟨rfl,rfl⟩;clear qcr;go_wp2_with fail;refine aE [.val (.slice (some ⟨kz,0,none⟩) P.m P.m),.val (.int .i64 (T.o k:Int)),.val (.pointer (some ⟨p,0,none⟩)),.val (.pointer (some ⟨p,0,none⟩)),.val (.pointer (some ⟨p,0,none⟩)),.val (.int .i64 (P.n:Int)),.val (.int .i64 (d:Int)),.val (.pointer (some ⟨w.heap.size,1,none⟩)),.val (.slice (some ga) P.n OI),.val (.int .i64 (k:Int)),.val (.pointer (some (ga.add k))),.val (.string (qs (gl k))),.val (.pointer (some ⟨kz,d,none⟩)),.ch] (fun L g W=>(if L 13=true then ay W (kz) ((CK).setIfInBounds d (.string (qs (gl k)))) 34 else ay W (kz) (CK) 34)) (S:=fun k=>k=kz) ag ag ag (Mv.refl aM.o (fun k h=>(fun e=>Nat.le_trans (show w.heap.size<=kz from dE.o) (Nat.le_of_eq e.symm)) h)) ?_ ?_ ?_ ?_ (fun fI w3 aK bW=>?_)
    ·exact fun B5=>(by rw[if_neg af];exact eu.o.drew)
    ·exact fun L g W W1 h e=>cA (h) (fun h=>h.ext e) (fun h=>h.ext e)
    ·intro i v L g W hi h;have qa7:i≠13:=gJ hi rfl;simp only[bB qa7,bE qa7];exact h
    ·skip
     refine RI 7 (.slice (some ⟨kz,0,none⟩) P.m P.m)<|RI 9 (.int .i64 (T.o k:Int))<|RI 0 (.pointer (some ⟨p,0,none⟩))<|R1 2<|R1 3<|J2 (fun aw=>aw.val 4) (fun aw=>(aw.mv.aH dr.o (fun h=>((show p≠kz from gz.o)) h)).cell (0) ep.o.1) ?_;refine RV (fun A_ aw K_ aL=>?_) ?_;· have F2:=aw.val 1;have As:=aw.val 5;go_simp;try go_bits;exact du aL
     refine RI 4 (.pointer (some ⟨w.heap.size,0,none⟩))<|J2 (fun aw=>aw.val 7) (fun aw=>(aw.mv.aH az.o (fun h=>((show w.heap.size≠kz from lX.o)) h)).cell 1 rfl)<|RI 8 (.int .i64 (k:Int))<|R2 8 9<|J2 (fun aw=>aw.val 10) (fun aw=>aC aw.mv.ext (HCg.o))<|R2 0 6 ?_;refine aN.cons (fun L_ g_ A_ W_ aw=>?_) ?_
     ·have qaU:=aw.val 12;have WL:=aw.val 11;refine fl.ch fun K_ aL=>?_;have n_:=aw.not;have e_:=aw.e;rw[if_neg (by rw[n_];decide)] at e_;have B7:=e_.cell (d) (jb.o d hdm);have B6:=e_.free d;have a8:=ai e_;have bU:=ai aw.mv;have nS:=ai aw.e;clear e_ n_;go_simp;exact aL.o undef _ (bU.o.setCell (Or.inl (rfl)) _) (by rw[bS,if_pos rfl];exact(a8.o.set d _))
     exact aN.nil
    simp only[gm,Ke.value,b7,Act.put,aq,au,av];have bA:Hid (Ext w w3):=ai aK.ext;have gD:=ai (aK.aH dr.o (fun h=>((show p≠kz from gz.o)) h));have aA:=ai (aK.aH az.o (fun h=>((show w.heap.size≠kz from lX.o)) h));have fQ:Hid (ay w3 (kz) ((CK).setIfInBounds d (.string (qs (gl k)))) 34):=ai (by have h_:=bW;rw[if_pos rfl] at h_;exact h_);clear aK bW;go_wp2_with fail;go_roundw
    case rel=>exact⟨k+1,by go_num,ae,ai ⟨bA.o,aA.o,⟨_,fQ.o,Yo HD.o jb.o⟩⟩⟩
    case measure=>simp[intOf];omega
   ·have gQ:=ai h1;clear h1;go_wp2_with fail;refine(cz (n:=P.n) p (T.o k) false _ (dr.o) ep.o.1 (by have:=gQ.out;simp;omega)).mono ?_;rintro e _ ⟨rfl,rfl⟩;clear qcr;go_wp2_with fail;go_roundw
    case rel=>exact⟨k+1,by go_num,ae,ai ⟨aM.o,az.o,⟨_,eu.o,Tf (by have:=gQ.out;omega) jb.o⟩⟩⟩
    case measure=>simp[intOf];omega
  ·have eY:k=P.n:=ae;have kx:¬ (k:Int)<((P.n:Nat):Int):=ae;go_wp2;go_ret;exact⟨kz,CK,rfl,aM.o,dE.o,eu.o,fun j hj=>by rw[← eY];exact jb.o j hj⟩
theorem Am(P:LP)(T:bT)(p:Nat)(vb vl vo vw:Value)(vf:Nat->Value)(w:World)(row:Nat){q:Nat}(g:Gd w)(hT:TR P T w p vb vl vo vw vf)(hrow:row<P.m)(tI:P.n<=T.b row)(hbl:T.b row<P.n+P.m)(hol:∀ j,j<P.n->T.o j<P.n+P.m)(hn:P.n<=1000)(hm:P.m<=1000)(Q:TQ P T q)(jo:1<=q)(kn:q<=400):Calls prog 124 #[.pointer (some ⟨p,0,none⟩),.int .i64 (row:Int),.int .i64 (P.m:Int)] w (Mka w P.m (fun j => .string (qs (P.ref T row j))) 34):=by
 have HG:=ai g;have BG:=ai hrow;have Y9:=ai tI;have HBL:=ai hbl;have HOL:=ai hol;clear g hrow tI hbl hol;have JF:=ai Q.c;have uP:=ai Q.f;clear Q;obtain⟨CP,b1,p0⟩:=hT.tab;obtain⟨bo,bc,rfl,Cm,zU,hb⟩:=hT.b;obtain⟨Uf,lc,rfl,Ck,Cj,hl⟩:=hT.l;obtain⟨oo,oc,rfl,Ch,Cg,ho⟩:=hT.o;obtain⟨wo,j4,rfl,Cd,Cc,hw⟩:=hT.wf;have HF:=ai hT.f;have TB:=ai hT;have jd:=ai b1;have ep:Hid (_/\_/\_/\_/\_/\_):=ai p0;have yx:=ai hb;have tR:=ai hl;have JE:=ai ho;have PK:=ai hw;clear b1 p0 hb hl ho hw hT Cm zU Ck Cj Ch Cg Cd Cc;have KS:(row:Int)<(P.m:Int):=by have:=BG.o;omega
 go_enter func124,ntmps124;go_upto_region 1 with fail
 refine aB (fun W=>Ext w W/\ay W (p) (CP) 185/\ay W (w.heap.size) (#[.slice none 0 0]) 36) ⟨((Ext.refl w).alloc _),(jd.o.alloc _),(ay.nw (#[.slice none 0 0]) 36)⟩ ?_;rintro w1 ⟨e1,Eu,a7⟩;have aD:=ai e1;have fG:=ai Eu;have ax:=ai a7;have aF:Hid (w.heap.size<=w.heap.size):=ai (Nat.le_refl _);clear e1 Eu a7;obtain⟨la,rfl,pW,q7⟩:=tR.o row BG.o;have TO:=ai pW;have TN:=ai q7;clear pW q7;have pT:=fG.o.cell (2) ep.o.2.2.1;have qH:=aC aD.o (TO.o);have kO:=aC aD.o (TN.o);go_wp2_with fail;refine(O3 P T p _ _ _ _ _ _ _ (vf row) (T.f row) (HG.o.ext (aD.o)) (TB.o.ext aD.o) ((HF.o row BG.o).ext aD.o) HOL.o hn hm).mono ?_;rintro e w2 ⟨kz,CZ,rfl,e2,g_,b_,c_⟩;have gz:Hid (p≠kz):=ai (Nat.ne_of_lt (Nat.lt_of_lt_of_le fG.o.lt g_));have lX:Hid (w.heap.size≠kz):=ai (Nat.ne_of_lt (Nat.lt_of_lt_of_le ax.o.lt g_));have dE:Hid (w.heap.size<=kz):=ai (Nat.le_trans aD.o.size g_);have aM:=ai (aD.o.trans e2);have dr:=ai (fG.o.ext e2);have az:=ai (ax.o.ext e2);clear e2 pT qH kO;have eu:=ai b_;have o7:=ai c_;clear g_ b_ c_;go_wp2_with fail;go_loopw [22] (fun bY wx=>∃ k:Nat,bY = .int .i64 k/\k<=P.m/\Hid (Ext w wx/\ay wx (w.heap.size) (#[.slice none 0 0]) 36/\(∃ CK,ay wx kz CK 34/\∀ j,j<P.m->CK[j]?=some (.string (qs (if j<k then -P.dl T (T.f row) P.n j else P.dl T (T.f row) P.n j)))))) (fun bY _=>P.m-(intOf bY).toNat)
 case atStart=>exact⟨0,rfl,Nat.zero_le _,ai ⟨aM.o,az.o,⟨_,eu.o,fun j hj=>by rw[if_neg (Nat.not_lt_zero _)];exact o7.o j hj⟩⟩⟩
 case round =>
  rename World=>w3
  obtain⟨k,rfl,mg,HH⟩:=hrel;have bA:=ai HH.o.1;have gD:=ai (jd.o.ext bA.o);have aA:=ai HH.o.2.1;obtain⟨CK,gC,gY⟩:=HH.o.2.2;have fQ:=ai gC;have jb:=ai gY;clear gC gY;clear HH;by_cases aP:k<P.m
  ·have fj:(k:Int)<((P.m:Nat):Int):=ae;have V0:=jb.o k aP;rw[if_neg ae] at V0;have HZk:=ai V0;clear V0;have qcl:=fQ.o.cell (k) HZk.o;go_wp2_with fail;refine cto (dS (P.dl T (T.f row) P.n k) _ (Jr jo (uP.o row BG.o) P.n k (Nat.le_refl _)) ae) fun w4 e4=>?_
   have bO:=ai (bA.o.trans e4);have iJ:=ai (gD.o.ext e4);have aJ:=ai (aA.o.ext e4);have jY:=ai (fQ.o.ext e4);clear e4 qcl;have qcl:=jY.o.cell (k) HZk.o;have qno:=jY.o.free k;go_wp2_with fail;go_roundw
   case rel=>exact⟨k+1,by go_num,ae,ai ⟨(bO.o.setCell dE.o _),(aJ.o.other (a:=⟨kz,k,none⟩) _ (lX.o)),⟨_,(jY.o.set k (.string (qs (-P.dl T (T.f row) P.n k)))),Sj aP jb.o⟩⟩⟩
   case measure=>simp[intOf];omega
  ·have eY:k=P.m:=ae;have kx:¬ (k:Int)<((P.m:Nat):Int):=ae;obtain⟨d,hd⟩:∃ d,T.b row=P.n+d:=⟨T.b row-P.n,by have:=Y9.o;omega⟩
   have hdm:d<P.m:=by have:=HBL.o;omega
   have aw:((T.b row:Nat):Int)-((P.n:Nat):Int)=((d:Nat):Int):=ae;have GF:(d:Int)<((P.m:Nat):Int):=ae;have HD:=ai hd;clear hd;obtain⟨ba,rfl,tw⟩:=yx.o row BG.o;have TP:=ai tw;clear tw;go_wp2_with fail;refine aE [.val (.slice (some ⟨kz,0,none⟩) P.m P.m),.val (.pointer (some ⟨p,0,none⟩)),.val (.pointer (some ⟨p,0,none⟩)),.val (.pointer (some ⟨p,1,none⟩)),.val (.slice (some ba) P.m bc),.val (.int .i64 (row:Int)),.val (.pointer (some (ba.add row))),.val (.int .i64 (T.b row:Int)),.val (.pointer (some ⟨p,0,none⟩)),.val (.pointer (some ⟨p,0,none⟩)),.val (.pointer (some ⟨p,0,none⟩)),.val (.int .i64 (P.n:Int)),.val (.int .i64 (d:Int)),.val (.pointer (some ⟨kz,d,none⟩)),.ch] (fun L g W=>(if L 14=true then ay W (kz) ((CK).setIfInBounds d (.string ⟨#[49]⟩)) 34 else ay W (kz) (CK) 34)) (S:=fun k=>k=kz) ag ag ag (Mv.refl bA.o (fun k h=>(fun e=>Nat.le_trans (show w.heap.size<=kz from dE.o) (Nat.le_of_eq e.symm)) h)) ?_ ?_ ?_ ?_ (fun fI w4 aK bW=>?_)
   ·exact fun B5=>(by rw[if_neg af];exact fQ.o.drew)
   ·exact fun L g W W1 h e=>cA (h) (fun h=>h.ext e) (fun h=>h.ext e)
   ·intro i v L g W hi h;have we:i≠14:=gJ hi rfl;simp only[bB we,bE we];exact h
   ·skip
    refine RI 7 (.slice (some ⟨kz,0,none⟩) P.m P.m)<|RI 0 (.pointer (some ⟨p,0,none⟩))<|R1 1<|R1 2<|J2 (fun aw=>aw.val 3) (fun aw=>(aw.mv.aH gD.o (fun h=>((show p≠kz from gz.o)) h)).cell (1) ep.o.2.1)<|RI 1 (.int .i64 (row:Int))<|R2 4 5<|J2 (fun aw=>aw.val 6) (fun aw=>aC aw.mv.ext (TP.o))<|RI 0 (.pointer (some ⟨p,0,none⟩))<|R1 8<|R1 9<|J2 (fun aw=>aw.val 10) (fun aw=>(aw.mv.aH gD.o (fun h=>((show p≠kz from gz.o)) h)).cell (0) ep.o.1) ?_;refine RV (fun A_ aw K_ aL=>?_) ?_;· have Nc:=aw.val 7;have WK:=aw.val 11;go_simp;try go_bits;exact du aL
    refine R2 0 12 ?_;refine aN.cons (fun L_ g_ A_ W_ aw=>?_) ?_
    ·have qaR:=aw.val 13;refine fl.ch fun K_ aL=>?_;have n_:=aw.not;have e_:=aw.e;rw[if_neg (by rw[n_];decide)] at e_;have B7:=e_.cell (d) (jb.o d hdm);have B6:=e_.free d;have a8:=ai e_;have bU:=ai aw.mv;have nS:=ai aw.e;clear e_ n_;go_simp;exact aL.o undef _ (bU.o.setCell (Or.inl (rfl)) _) (by rw[bS,if_pos rfl];exact(a8.o.set d _))
    exact aN.nil
   simp only[gm,Ke.value,b7,Act.put,aq,au,av];have bO:Hid (Ext w w4):=ai aK.ext;have iJ:=ai (aK.aH gD.o (fun h=>((show p≠kz from gz.o)) h));have aJ:=ai (aK.aH aA.o (fun h=>((show w.heap.size≠kz from lX.o)) h));have jY:Hid (ay w4 (kz) ((CK).setIfInBounds d (.string ⟨#[49]⟩)) 34):=ai (by have h_:=bW;rw[if_pos rfl] at h_;exact h_);clear aK bW;have aG:=aJ.o.cell 0 rfl;have ek:=aJ.o.free 0;go_wp2_with fail;refine aB (fun W=>Ext w W/\ay W (p) (CP) 185/\ay W (w.heap.size) (#[.slice (some ⟨kz,0,none⟩) P.m P.m]) 36/\ay W (kz) ((CK).setIfInBounds d (.string ⟨#[49]⟩)) 34) ⟨(bO.o.setCell (aF.o) _),(iJ.o.other (a:=⟨w.heap.size,0,none⟩) _ (by have:=jd.o.lt;first|omega|(simp only[];omega)|(simp;omega))),(aJ.o.set 0 (.slice (some ⟨kz,0,none⟩) P.m P.m)),(jY.o.other (a:=⟨w.heap.size,0,none⟩) _ (fun h=>lX.o h.symm))⟩ ?_;rintro w5 ⟨e5,US,eJ,UM⟩;have cX:=ai e5;have xQ:=ai US;have aT:=ai eJ;have Qi:=ai UM;clear e5 US eJ UM aG ek;have fC:=aT.o.cell 0 rfl;refine bodyPost_ret (v:=.agg #[.slice (some ⟨kz,0,none⟩) P.m P.m]) (by simp[results,results124,go_sem,fC]) rfl ⟨kz,_,rfl,cX.o,dE.o,Qi.o,RP HD.o eY jb.o⟩
theorem T6(P:LP)(T:bT)(p:Nat)(vb vl vo vw:Value)(vf:Nat->Value)(w:World)(at_:Nat){q:Nat}(g:Gd w)(hT:TR P T w p vb vl vo vw vf)(AX:at_<P.n)(hn:P.n<=1000)(hm:P.m<=1000)(Q:TQ P T q)(jo:1<=q)(kn:q<=400):Calls prog 127 #[.pointer (some ⟨p,0,none⟩),.int .i64 (at_:Int)] w (Mkf w P.n (fun j => .string (qs (P.ry T (FI (T.wf at_)) at_ P.m j))) 34):=by
 have HG:=ai g;have yD:=ai AX;clear g AX;have JF:=ai Q.c;have uP:=ai Q.f;have HQw:=ai Q.wf;clear Q;obtain⟨CP,b1,p0⟩:=hT.tab;obtain⟨bo,bc,rfl,Cm,zU,hb⟩:=hT.b;obtain⟨Uf,lc,rfl,Ck,Cj,hl⟩:=hT.l;obtain⟨oo,oc,rfl,Ch,Cg,ho⟩:=hT.o;obtain⟨wo,j4,rfl,Cd,Cc,hw⟩:=hT.wf;have HF:=ai hT.f;have TB:=ai hT;have jd:=ai b1;have ep:Hid (_/\_/\_/\_/\_/\_):=ai p0;have yx:=ai hb;have tR:=ai hl;have JE:=ai ho;have PK:=ai hw;clear b1 p0 hb hl ho hw hT Cm zU Ck Cj Ch Cg Cd Cc;have qbX:(at_:Int)<(P.n:Int):=by have:=yD.o;omega
 go_enter func127,ntmps127;go_upto_region 2 with fail
 obtain⟨wa,rfl,JX⟩:=PK.o at_ yD.o;have HCw:=ai JX;clear JX;by_cases h2:0<T.wf at_
 ·have h3:=RC h2;obtain⟨s,es⟩:∃ s:Rat,s=-1:=⟨_,rfl⟩
  have HS:=ai es;have JC:Hid (s=FI (T.wf at_)):=ai (by rw[FI,if_pos h2];exact es);clear es h2;have Yx:=jd.o.cell (5) ep.o.2.2.2.2.2;have Ha:=aC (Ext.refl w) (HCw.o);go_wp2_with fail;refine(cr (T.wf at_) _).mono ?_;rintro e _ ⟨rfl,rfl⟩;clear Yx Ha;have Hc:=jd.o.cell (0) ep.o.1;go_wp2_with fail;refine(mI P.n ae _).mono ?_;rintro e w1 ⟨kz,CZ,rfl,e1,g_,b_,c_⟩;have gz:Hid (p≠kz):=ai (Nat.ne_of_lt (Nat.lt_of_lt_of_le jd.o.lt g_));have dE:Hid (w.heap.size<=kz):=ai (Nat.le_trans (Ext.refl w).size g_);have aD:Hid (Ext w w1):=ai ((Ext.refl w).trans e1);have fG:=ai (jd.o.ext e1);clear e1 Hc;have mA:=ai b_;have o7:=ai c_;clear g_ b_ c_;go_upto_region 5 with fail
  obtain⟨oa,rfl,Cf⟩:=JE.o at_ yD.o;have BR:=ai Cf;clear Cf;have Bm:=fG.o.cell (3) ep.o.2.2.2.1;have th:=aC aD.o (BR.o);by_cases h1:P.n<=T.o at_
  ·have gQ:=ai h1;clear h1;have BU:Hid (∀ j,j<P.n->CZ[j]?=some (.string (qs (P.ry T s at_ 0 j)))):=ai (TY gQ.out o7.o);clear o7;go_wp2_with fail;refine(cz (n:=P.n) p (T.o at_) true _ (fG.o) ep.o.1 (by have:=gQ.out;simp;omega)).mono ?_;rintro e _ ⟨rfl,rfl⟩;clear Bm th;have oH:=fG.o.cell (1) ep.o.2.1;go_wp2_with fail;clear oH;go_wp2_with fail;go_loopw [45] (fun bY wx=>∃ k:Nat,bY = .int .i64 k/\k<=P.m/\Hid (Ext w wx/\(∃ CK,ay wx kz CK 34/\∀ j,j<P.n->CK[j]?=some (.string (qs (P.ry T s at_ k j)))))) (fun bY _=>P.m-(intOf bY).toNat)
   case atStart=>exact⟨0,rfl,Nat.zero_le _,ai ⟨aD.o,⟨_,mA.o,BU.o⟩⟩⟩
   case round =>
    rename World=>w2
    obtain⟨k,rfl,mg,HH⟩:=hrel;have aM:=ai HH.o.1;have dr:=ai (jd.o.ext aM.o);obtain⟨CK,gC,gY⟩:=HH.o.2;have eu:=ai gC;have jb:=ai gY;clear gC gY;clear HH;by_cases aP:k<P.m
    ·have fj:(k:Int)<((P.m:Nat):Int):=ae;obtain⟨ba,rfl,tw⟩:=yx.o k aP;have kU:=ai tw;clear tw;have mn:=aC aM.o (kU.o);by_cases h4:P.n<=T.b k
     ·have s6:=ai h4;clear h4;go_wp2_with fail;refine(cz (n:=P.n) p (T.b k) true _ (dr.o) ep.o.1 (by have:=s6.out;simp;omega)).mono ?_;rintro e _ ⟨rfl,rfl⟩;clear mn;go_wp2_with fail;go_roundw
      case rel=>exact⟨k+1,by go_num,ae,ai ⟨aM.o,⟨_,eu.o,uu s6.out jb.o⟩⟩⟩
      case measure=>simp[intOf];omega
     ·have s6:=ai h4;clear h4;have hb3:((T.b k:Nat):Int)<((P.n:Nat):Int):=by have:=s6.out;omega
      obtain⟨la,rfl,pW,q7⟩:=tR.o k aP;have xM:=ai pW;have kT:=ai q7;clear pW q7;obtain⟨fo,eh,qW,_,_,wO⟩:=HF.o k aP;obtain⟨fa,rfl,tu⟩:=wO at_ yD.o;rw[qW] at kT;have BS:=ai tu;clear tu wO qW;go_wp2_with fail;refine(cz (n:=P.n) p (T.b k) false _ (dr.o) ep.o.1 (by have:=s6.out;simp;omega)).mono ?_;rintro e _ ⟨rfl,rfl⟩;clear mn;have pT:=dr.o.cell (2) ep.o.2.2.1;have dp:=aC aM.o (kT.o);have gy:=aC aM.o (BS.o);go_wp2_with fail;refine cto (Iz s (T.f k at_) _ (HG.o.ext (aM.o)) HS.o (uP.o k aP at_ yD.o) ae) fun w3 e3=>?_
      have bA:=ai (aM.o.trans e3);have gD:=ai (dr.o.ext e3);have fQ:=ai (eu.o.ext e3);clear e3 pT dp gy;have sf:=fQ.o.cell (T.b k) (jb.o (T.b k) (by have:=s6.out;omega));have rY:=fQ.o.free (T.b k);go_wp2_with fail;go_roundw
      case rel=>exact⟨k+1,by go_num,ae,ai ⟨(bA.o.setCell dE.o _),⟨_,(fQ.o.set (T.b k) (.string (qs (s*T.f k at_)))),Aj jb.o⟩⟩⟩
      case measure=>simp[intOf];omega
    ·have eY:k=P.m:=ae;have kx:¬ (k:Int)<((P.m:Nat):Int):=ae;go_wp2;go_ret;exact⟨kz,CK,rfl,aM.o,dE.o,eu.o,fun j hj=>by rw[← eY,← JC.o];exact jb.o j hj⟩
  ·have gQ:=ai h1;clear h1;have Ut:((T.o at_:Nat):Int)<((P.n:Nat):Int):=by have:=gQ.out;omega
   have BU:Hid (∀ j,j<P.n->(CZ.setIfInBounds (T.o at_) (.string ⟨#[45,49]⟩))[j]?=some (.string (qs (P.ry T s at_ 0 j)))):=ai (MI HS.o vQ o7.o);go_wp2_with fail;refine(cz (n:=P.n) p (T.o at_) false _ (fG.o) ep.o.1 (by have:=gQ.out;simp;omega)).mono ?_;rintro e _ ⟨rfl,rfl⟩;clear Bm th;have qG:=mA.o.cell (T.o at_) (o7.o (T.o at_) (by have:=gQ.out;omega));have qF:=mA.o.free (T.o at_);go_upto_region 8 with fail
   refine aB (fun W=>Ext w W/\ay W (p) (CP) 185/\ay W (kz) ((CZ).setIfInBounds (T.o at_) (.string ⟨#[45,49]⟩)) 34) ⟨(aD.o.setCell dE.o _),(fG.o.other (a:=⟨kz,T.o at_,none⟩) _ (gz.o)),(mA.o.set (T.o at_) (.string ⟨#[45,49]⟩))⟩ ?_;rintro w2 ⟨e2,lD,Et⟩;have aM:=ai e2;have dr:=ai lD;have eu:=ai Et;clear e2 lD Et qG qF;have oH:=dr.o.cell (1) ep.o.2.1;go_wp2_with fail;clear oH;go_wp2_with fail;go_loopw [45] (fun bY wx=>∃ k:Nat,bY = .int .i64 k/\k<=P.m/\Hid (Ext w wx/\(∃ CK,ay wx kz CK 34/\∀ j,j<P.n->CK[j]?=some (.string (qs (P.ry T s at_ k j)))))) (fun bY _=>P.m-(intOf bY).toNat)
   case atStart=>exact⟨0,rfl,Nat.zero_le _,ai ⟨aM.o,⟨_,eu.o,BU.o⟩⟩⟩
   case round =>
    rename World=>w3
    obtain⟨k,rfl,mg,HH⟩:=hrel;have bA:=ai HH.o.1;have gD:=ai (jd.o.ext bA.o);obtain⟨CK,gC,gY⟩:=HH.o.2;have fQ:=ai gC;have jb:=ai gY;clear gC gY;clear HH;by_cases aP:k<P.m
    ·have fj:(k:Int)<((P.m:Nat):Int):=ae;obtain⟨ba,rfl,tw⟩:=yx.o k aP;have kU:=ai tw;clear tw;have mn:=aC bA.o (kU.o);by_cases h4:P.n<=T.b k
     ·have s6:=ai h4;clear h4;go_wp2_with fail;refine(cz (n:=P.n) p (T.b k) true _ (gD.o) ep.o.1 (by have:=s6.out;simp;omega)).mono ?_;rintro e _ ⟨rfl,rfl⟩;clear mn;go_wp2_with fail;go_roundw
      case rel=>exact⟨k+1,by go_num,ae,ai ⟨bA.o,⟨_,fQ.o,uu s6.out jb.o⟩⟩⟩
      case measure=>simp[intOf];omega
     ·have s6:=ai h4;clear h4;have hb3:((T.b k:Nat):Int)<((P.n:Nat):Int):=by have:=s6.out;omega
      obtain⟨la,rfl,pW,q7⟩:=tR.o k aP;have xM:=ai pW;have kT:=ai q7;clear pW q7;obtain⟨fo,eh,qW,_,_,wO⟩:=HF.o k aP;obtain⟨fa,rfl,tu⟩:=wO at_ yD.o;rw[qW] at kT;have BS:=ai tu;clear tu wO qW;go_wp2_with fail;refine(cz (n:=P.n) p (T.b k) false _ (gD.o) ep.o.1 (by have:=s6.out;simp;omega)).mono ?_;rintro e _ ⟨rfl,rfl⟩;clear mn;have pT:=gD.o.cell (2) ep.o.2.2.1;have dp:=aC bA.o (kT.o);have gy:=aC bA.o (BS.o);go_wp2_with fail;refine cto (Iz s (T.f k at_) _ (HG.o.ext (bA.o)) HS.o (uP.o k aP at_ yD.o) ae) fun w4 e4=>?_
      have bO:=ai (bA.o.trans e4);have iJ:=ai (gD.o.ext e4);have jY:=ai (fQ.o.ext e4);clear e4 pT dp gy;have sf:=jY.o.cell (T.b k) (jb.o (T.b k) (by have:=s6.out;omega));have rY:=jY.o.free (T.b k);go_wp2_with fail;go_roundw
      case rel=>exact⟨k+1,by go_num,ae,ai ⟨(bO.o.setCell dE.o _),⟨_,(jY.o.set (T.b k) (.string (qs (s*T.f k at_)))),Aj jb.o⟩⟩⟩
      case measure=>simp[intOf];omega
    ·have eY:k=P.m:=ae;have kx:¬ (k:Int)<((P.m:Nat):Int):=ae;go_wp2;go_ret;exact⟨kz,CK,rfl,bA.o,dE.o,fQ.o,fun j hj=>by rw[← eY,← JC.o];exact jb.o j hj⟩
 ·have h3:=FJ h2;obtain⟨s,es⟩:∃ s:Rat,s=1:=⟨_,rfl⟩
  have HS:=ai es;have JC:Hid (s=FI (T.wf at_)):=ai (by rw[FI,if_neg h2];exact es);clear es h2;have Yx:=jd.o.cell (5) ep.o.2.2.2.2.2;have Ha:=aC (Ext.refl w) (HCw.o);go_wp2_with fail;refine(cr (T.wf at_) _).mono ?_;rintro e _ ⟨rfl,rfl⟩;clear Yx Ha;have Hc:=jd.o.cell (0) ep.o.1;go_wp2_with fail;refine(mI P.n ae _).mono ?_;rintro e w1 ⟨kz,CZ,rfl,e1,g_,b_,c_⟩;have gz:Hid (p≠kz):=ai (Nat.ne_of_lt (Nat.lt_of_lt_of_le jd.o.lt g_));have dE:Hid (w.heap.size<=kz):=ai (Nat.le_trans (Ext.refl w).size g_);have aD:Hid (Ext w w1):=ai ((Ext.refl w).trans e1);have fG:=ai (jd.o.ext e1);clear e1 Hc;have mA:=ai b_;have o7:=ai c_;clear g_ b_ c_;go_upto_region 5 with fail
  obtain⟨oa,rfl,Cf⟩:=JE.o at_ yD.o;have BR:=ai Cf;clear Cf;have Bm:=fG.o.cell (3) ep.o.2.2.2.1;have th:=aC aD.o (BR.o);by_cases h1:P.n<=T.o at_
  ·have gQ:=ai h1;clear h1;have BU:Hid (∀ j,j<P.n->CZ[j]?=some (.string (qs (P.ry T s at_ 0 j)))):=ai (TY gQ.out o7.o);clear o7;go_wp2_with fail;refine(cz (n:=P.n) p (T.o at_) true _ (fG.o) ep.o.1 (by have:=gQ.out;simp;omega)).mono ?_;rintro e _ ⟨rfl,rfl⟩;clear Bm th;have oH:=fG.o.cell (1) ep.o.2.1;go_wp2_with fail;clear oH;go_wp2_with fail;go_loopw [45] (fun bY wx=>∃ k:Nat,bY = .int .i64 k/\k<=P.m/\Hid (Ext w wx/\(∃ CK,ay wx kz CK 34/\∀ j,j<P.n->CK[j]?=some (.string (qs (P.ry T s at_ k j)))))) (fun bY _=>P.m-(intOf bY).toNat)
   case atStart=>exact⟨0,rfl,Nat.zero_le _,ai ⟨aD.o,⟨_,mA.o,BU.o⟩⟩⟩
   case round =>
    rename World=>w2
    obtain⟨k,rfl,mg,HH⟩:=hrel;have aM:=ai HH.o.1;have dr:=ai (jd.o.ext aM.o);obtain⟨CK,gC,gY⟩:=HH.o.2;have eu:=ai gC;have jb:=ai gY;clear gC gY;clear HH;by_cases aP:k<P.m
    ·have fj:(k:Int)<((P.m:Nat):Int):=ae;obtain⟨ba,rfl,tw⟩:=yx.o k aP;have kU:=ai tw;clear tw;have mn:=aC aM.o (kU.o);by_cases h4:P.n<=T.b k
     ·have s6:=ai h4;clear h4;go_wp2_with fail;refine(cz (n:=P.n) p (T.b k) true _ (dr.o) ep.o.1 (by have:=s6.out;simp;omega)).mono ?_;rintro e _ ⟨rfl,rfl⟩;clear mn;go_wp2_with fail;go_roundw
      case rel=>exact⟨k+1,by go_num,ae,ai ⟨aM.o,⟨_,eu.o,uu s6.out jb.o⟩⟩⟩
      case measure=>simp[intOf];omega
     ·have s6:=ai h4;clear h4;have hb3:((T.b k:Nat):Int)<((P.n:Nat):Int):=by have:=s6.out;omega
      obtain⟨la,rfl,pW,q7⟩:=tR.o k aP;have xM:=ai pW;have kT:=ai q7;clear pW q7;obtain⟨fo,eh,qW,_,_,wO⟩:=HF.o k aP;obtain⟨fa,rfl,tu⟩:=wO at_ yD.o;rw[qW] at kT;have BS:=ai tu;clear tu wO qW;go_wp2_with fail;refine(cz (n:=P.n) p (T.b k) false _ (dr.o) ep.o.1 (by have:=s6.out;simp;omega)).mono ?_;rintro e _ ⟨rfl,rfl⟩;clear mn;have pT:=dr.o.cell (2) ep.o.2.2.1;have dp:=aC aM.o (kT.o);have gy:=aC aM.o (BS.o);go_wp2_with fail;refine cto (MU s (T.f k at_) _ (HG.o.ext (aM.o)) HS.o (uP.o k aP at_ yD.o) ae) fun w3 e3=>?_
      have bA:=ai (aM.o.trans e3);have gD:=ai (dr.o.ext e3);have fQ:=ai (eu.o.ext e3);clear e3 pT dp gy;have sf:=fQ.o.cell (T.b k) (jb.o (T.b k) (by have:=s6.out;omega));have rY:=fQ.o.free (T.b k);go_wp2_with fail;go_roundw
      case rel=>exact⟨k+1,by go_num,ae,ai ⟨(bA.o.setCell dE.o _),⟨_,(fQ.o.set (T.b k) (.string (qs (s*T.f k at_)))),Aj jb.o⟩⟩⟩
      case measure=>simp[intOf];omega
    ·have eY:k=P.m:=ae;have kx:¬ (k:Int)<((P.m:Nat):Int):=ae;go_wp2;go_ret;exact⟨kz,CK,rfl,aM.o,dE.o,eu.o,fun j hj=>by rw[← eY,← JC.o];exact jb.o j hj⟩
  ·have gQ:=ai h1;clear h1;have Ut:((T.o at_:Nat):Int)<((P.n:Nat):Int):=by have:=gQ.out;omega
   have BU:Hid (∀ j,j<P.n->(CZ.setIfInBounds (T.o at_) (.string ⟨#[49]⟩))[j]?=some (.string (qs (P.ry T s at_ 0 j)))):=ai (MI HS.o sP o7.o);go_wp2_with fail;refine(cz (n:=P.n) p (T.o at_) false _ (fG.o) ep.o.1 (by have:=gQ.out;simp;omega)).mono ?_;rintro e _ ⟨rfl,rfl⟩;clear Bm th;have qG:=mA.o.cell (T.o at_) (o7.o (T.o at_) (by have:=gQ.out;omega));have qF:=mA.o.free (T.o at_);go_upto_region 8 with fail
   refine aB (fun W=>Ext w W/\ay W (p) (CP) 185/\ay W (kz) ((CZ).setIfInBounds (T.o at_) (.string ⟨#[49]⟩)) 34) ⟨(aD.o.setCell dE.o _),(fG.o.other (a:=⟨kz,T.o at_,none⟩) _ (gz.o)),(mA.o.set (T.o at_) (.string ⟨#[49]⟩))⟩ ?_;rintro w2 ⟨e2,lD,Et⟩;have aM:=ai e2;have dr:=ai lD;have eu:=ai Et;clear e2 lD Et qG qF;have oH:=dr.o.cell (1) ep.o.2.1;go_wp2_with fail;clear oH;go_wp2_with fail;go_loopw [45] (fun bY wx=>∃ k:Nat,bY = .int .i64 k/\k<=P.m/\Hid (Ext w wx/\(∃ CK,ay wx kz CK 34/\∀ j,j<P.n->CK[j]?=some (.string (qs (P.ry T s at_ k j)))))) (fun bY _=>P.m-(intOf bY).toNat)
   case atStart=>exact⟨0,rfl,Nat.zero_le _,ai ⟨aM.o,⟨_,eu.o,BU.o⟩⟩⟩
   case round =>
    rename World=>w3
    obtain⟨k,rfl,mg,HH⟩:=hrel;have bA:=ai HH.o.1;have gD:=ai (jd.o.ext bA.o);obtain⟨CK,gC,gY⟩:=HH.o.2;have fQ:=ai gC;have jb:=ai gY;clear gC gY;clear HH;by_cases aP:k<P.m
    ·have fj:(k:Int)<((P.m:Nat):Int):=ae;obtain⟨ba,rfl,tw⟩:=yx.o k aP;have kU:=ai tw;clear tw;have mn:=aC bA.o (kU.o);by_cases h4:P.n<=T.b k
     ·have s6:=ai h4;clear h4;go_wp2_with fail;refine(cz (n:=P.n) p (T.b k) true _ (gD.o) ep.o.1 (by have:=s6.out;simp;omega)).mono ?_;rintro e _ ⟨rfl,rfl⟩;clear mn;go_wp2_with fail;go_roundw
      case rel=>exact⟨k+1,by go_num,ae,ai ⟨bA.o,⟨_,fQ.o,uu s6.out jb.o⟩⟩⟩
      case measure=>simp[intOf];omega
     ·have s6:=ai h4;clear h4;have hb3:((T.b k:Nat):Int)<((P.n:Nat):Int):=by have:=s6.out;omega
      obtain⟨la,rfl,pW,q7⟩:=tR.o k aP;have xM:=ai pW;have kT:=ai q7;clear pW q7;obtain⟨fo,eh,qW,_,_,wO⟩:=HF.o k aP;obtain⟨fa,rfl,tu⟩:=wO at_ yD.o;rw[qW] at kT;have BS:=ai tu;clear tu wO qW;go_wp2_with fail;refine(cz (n:=P.n) p (T.b k) false _ (gD.o) ep.o.1 (by have:=s6.out;simp;omega)).mono ?_;rintro e _ ⟨rfl,rfl⟩;clear mn;have pT:=gD.o.cell (2) ep.o.2.2.1;have dp:=aC bA.o (kT.o);have gy:=aC bA.o (BS.o);go_wp2_with fail;refine cto (MU s (T.f k at_) _ (HG.o.ext (bA.o)) HS.o (uP.o k aP at_ yD.o) ae) fun w4 e4=>?_
      have bO:=ai (bA.o.trans e4);have iJ:=ai (gD.o.ext e4);have jY:=ai (fQ.o.ext e4);clear e4 pT dp gy;have sf:=jY.o.cell (T.b k) (jb.o (T.b k) (by have:=s6.out;omega));have rY:=jY.o.free (T.b k);go_wp2_with fail;go_roundw
      case rel=>exact⟨k+1,by go_num,ae,ai ⟨(bO.o.setCell dE.o _),⟨_,(jY.o.set (T.b k) (.string (qs (s*T.f k at_)))),Aj jb.o⟩⟩⟩
      case measure=>simp[intOf];omega
    ·have eY:k=P.m:=ae;have kx:¬ (k:Int)<((P.m:Nat):Int):=ae;go_wp2;go_ret;exact⟨kz,CK,rfl,bA.o,dE.o,fQ.o,fun j hj=>by rw[← eY,← JC.o];exact jb.o j hj⟩
theorem Pw{a b:Value}:#[a] ++ #[b]=#[a,b]:=rfl
theorem qhE{a b c:Value}:#[a] ++ #[b,c]=#[a,b,c]:=rfl
theorem TM.vT{M:TM}{row kz n p m b H:Nat}(h:∀ k,M.S p m k->k≠b)(hb:b<H)(hk:H<=kz):∀ k,(M.vU row kz n).S p m k->k≠b:=fun k hs=>(TM.Np hs).elim (h k) (fun e=>ae)
theorem kg.qb3{P:LP}{T:bT}(h:kg P T):Good P T:=⟨h.inv,h.fz⟩
theorem MP(P:LP)(T:bT):P.qp T=-1∨∃ r:Nat,P.qp T=(r:Int)/\r<P.m/\P.n<=T.b r/\T.c r<0:=by
 rcases sM P T with⟨h1,_⟩|⟨r,h1,h2,h3,h4,_⟩
 ·exact Or.inl h1
 ·exact Or.inr ⟨r,h2,h1,h3,h4⟩
theorem Tq(P:LP)(T:bT)(r:Nat):P.LX T r=-1∨∃ a:Nat,P.LX T r=(a:Int)/\a<P.n/\T.f r a≠0:=by
 rcases xB P T r with⟨h1,_⟩|⟨a,h1,h2,_,h4,_⟩
 ·exact Or.inl h1
 ·exact Or.inr ⟨a,h2,h1,fun e=>by rw[e] at h4;exact absurd h4 af⟩
theorem V8(P:LP)(T:bT):(∃ a:Nat,P.atU T=(a:Int)/\a<P.n/\T.o a<P.n/\T.wf a≠0)∨P.atU T=-1:=by
 rcases EI P T with⟨h1,_⟩|⟨r,h1,h2,h3,h4⟩
 ·exact Or.inr h1
 ·exact Or.inl ⟨r,h2,h1,h3,h4⟩
theorem W6(P:LP)(T:bT):P.Ho T=-1∨∃ a:Nat,P.Ho T=(a:Int)/\a<P.n/\P.n<=T.o a/\T.wf a<0:=by
 rcases xA P T with⟨h1,_⟩|⟨r,h1,h2,h3,h4,_⟩
 ·exact Or.inl h1
 ·exact Or.inr ⟨r,h2,h1,h3,h4⟩
theorem NJ(P:LP)(T:bT)(a:Nat):P.lv T a P.m=-1∨∃ r:Nat,P.lv T a P.m=(r:Int)/\r<P.m/\T.f r a≠0:=by
 rcases uz P T a P.m with⟨h1,_⟩|⟨r,h1,h2,_,h3,_⟩
 ·exact Or.inl h1
 ·exact Or.inr ⟨r,h2,h1,fun e=>by rw[e] at h3;exact absurd h3 af⟩
def qeg(X:World)(P:LP)(p:Nat)(e:Ending)(w':World):Prop:=∃ (T:bT) (M:TM),TA X P T p M w'/\Good P T/\Ext X w' /\
 ((e = .returned (.tuple #[.int .i64 0,.bool true])/\Pos P T)∨∃ r:Nat,e = .returned (.tuple #[.int .i64 (r:Int),.bool false])/\Bad P T r)
def qhO(X:World)(P:LP)(p:Nat)(e:Ending)(w':World):Prop:=∃ (T:bT) (M:TM),TA X P T p M w'/\Good P T/\Ext X w' /\
 ((∃ a:Nat,e = .returned (.tuple #[.int .i64 (a:Int),.bool false])/\Pos P T/\a<P.n/\T.o a<P.n/\T.wf a≠0) ∨
  (e = .returned (.tuple #[.int .i64 0,.bool true])/\kg P T/\∀ j,j<P.n->P.n<=T.o j->0<=T.wf j) ∨
  (∃ a:Nat,e = .returned (.tuple #[.int .i64 (a:Int),.bool false])/\kg P T/\a<P.n/\P.n<=T.o a/\T.wf a<0/\∀ i,i<P.m->P.n<=T.b i->0<=T.f i a))
section
variable {P:LP} {T:bT} {p xb:Nat} {M:TM} {w X:World} {tx:TypeId} {v:Int}
theorem wB (g:Gd w) (h:TA X P T p M w) (hv:P.qp T=v) (bx:ay w xb #[.pointer (some ⟨p,0,none⟩)] tx) (hm:P.m<=1000) :
    Calls prog 201 #[M.vb P,.func (.func 202) #[] #[.pointer (some ⟨xb,0,none⟩)]] w (aZ w (.int .i64 v)):=by
 obtain⟨ao,cap,e,_,_,hh⟩:=h.tr.b;rw[e,← hv];exact uE _ _ _ _ _ w ao cap hh (fun W e k hk=>by rw[Pw];exact qcv P T p _ _ _ _ _ W xb k _ tx _ (g.ext e) (h.tr.ext e) (bx.ext e) rfl hk rfl) ae (fun _ _=>ag)
theorem wA {yb row:Nat} {ty:TypeId} (g:Gd w) (h:TA X P T p M w) (hv:P.LX T row=v) (bx:ay w xb #[.pointer (some ⟨p,0,none⟩)] tx) (lC:ay w yb #[.int .i64 (row:Int)] ty) (hr:row<P.m) (hm:P.n<=1000) :
    Calls prog 201 #[M.vo P,.func (.func 203) #[] #[.pointer (some ⟨xb,0,none⟩),.pointer (some ⟨yb,0,none⟩)]] w (aZ w (.int .i64 v)):=by
 obtain⟨ao,cap,e,_,_,hh⟩:=h.tr.o;rw[e,← hv];exact uE _ _ _ _ _ w ao cap hh (fun W e k hk=>by rw[qhE];exact qcu P T p _ _ _ _ _ W xb k _ tx yb row _ ty _ (g.ext e) (h.tr.ext e) (bx.ext e) rfl (lC.ext e) rfl hr hk rfl) ae (fun _ _=>ag)
theorem wy (g:Gd w) (h:TA X P T p M w) (hv:P.atU T=v) (bx:ay w xb #[.pointer (some ⟨p,0,none⟩)] tx) (hm:P.n<=1000) :
    Calls prog 201 #[M.vo P,.func (.func 204) #[] #[.pointer (some ⟨xb,0,none⟩)]] w (aZ w (.int .i64 v)):=by
 obtain⟨ao,cap,e,_,_,hh⟩:=h.tr.o;rw[e,← hv];exact uE _ _ _ _ _ w ao cap hh (fun W e k hk=>by rw[Pw];exact qct P T p _ _ _ _ _ W xb k _ tx _ (g.ext e) (h.tr.ext e) (bx.ext e) rfl hk rfl) ae (fun _ _=>ag)
theorem wv (g:Gd w) (h:TA X P T p M w) (hv:P.Ho T=v) (bx:ay w xb #[.pointer (some ⟨p,0,none⟩)] tx) (hm:P.n<=1000) :
    Calls prog 201 #[M.vo P,.func (.func 205) #[] #[.pointer (some ⟨xb,0,none⟩)]] w (aZ w (.int .i64 v)):=by
 obtain⟨ao,cap,e,_,_,hh⟩:=h.tr.o;rw[e,← hv];exact uE _ _ _ _ _ w ao cap hh (fun W e k hk=>by rw[Pw];exact qcs P T p _ _ _ _ _ W xb k _ tx _ (g.ext e) (h.tr.ext e) (bx.ext e) rfl hk rfl) ae (fun _ _=>ag)
theorem Af(h:TA X P T p M w)(v:Nat)(r:Bool)(hr:decide (P.n<=v)=r):Calls prog 198 #[.pointer (some ⟨p,0,none⟩),.int .i64 (v:Int)] w fun e w'=>e = .returned (.bool r)/\w=w' :=
 let ⟨_,a,b⟩:=h.mem.tab;cz p v r w a b.1 hr
theorem IU {q at_:Nat} (g:Gd w) (h:TA X P T p M w) (hv:P.lv T at_ P.m=v) (AX:at_<P.n) (hm:P.m<=1000) (Q:TQ P T q) (jo:1<=q) (kn:q<=400) :
    Calls prog 206 #[.pointer (some ⟨p,0,none⟩),.int .i64 (at_:Int)] w (aZ w (.int .i64 v)):=by
 rw[← hv];exact St P T p _ _ _ _ _ w at_ g h.tr AX hm Q jo kn
end
theorem GY(P:LP)(T:bT)(p:Nat)(M:TM)(q:Nat)(X w:World)(g:Gd X)(hX:Ext X w)(hT:TA X P T p M w)(SZ:Vm P q)(hn:P.n<=1000)(hm:P.m<=1000)(jo:1<=q)(kn:q<=400)(hG:Good P T):Calls prog 123 #[.pointer (some ⟨p,0,none⟩)] w (qeg X P p):=by
 have HG:=ai g;have Qx:=ai hT;have TL:=ai hG;clear g hT hG;have zE:Hid (Mv X w (fun k=>X.heap.size<=k) w):=ai (Mv.refl hX (fun k h=>h));clear hX;obtain⟨N,hN⟩:=Lg TL.o;have HN:=ai hN;clear hN;go_enter func123,ntmps123;go_wp2_with fail;have pK:Hid (∀ q_,M.S p P.m q_->q_≠w.heap.size):=ai (Qx.o.ne ah);have TE:Hid (∀ q_,M.S p P.m q_->q_≠w.heap.size+1):=ai (Qx.o.ne ah);refine aB (fun W=>Mv X w (fun k=>X.heap.size<=k) W/\TA X P T p M W/\ay W (w.heap.size) (#[.pointer (some ⟨p,0,none⟩)]) 175/\ay W (w.heap.size+1) (#[.int .i64 0]) 3) ⟨((zE.o.alloc _).alloc _),((Qx.o.alloc _).alloc _),((ay.nw (#[.pointer (some ⟨p,0,none⟩)]) 175).alloc _),(ay.nw (#[.int .i64 0]) 3)⟩ ?_;rintro w1 ⟨e1,EC,a7,eI⟩;have aD:=ai e1;have p8:=ai EC;have ax:=ai a7;have aX:=ai eI;have aF:Hid (w.heap.size<=w.heap.size):=ai (Nat.le_refl _);have aS:Hid (w.heap.size<=w.heap.size+1):=ai ae;clear e1 EC a7 eI;go_loopg [3] N (fun gk bY wx=>bY = .bool false/\∃ (k:Nat) (M1:TM) (r_:Value),N<=k+gk/\Hid (Mv X w (fun k=>X.heap.size<=k) wx/\ay wx (w.heap.size) #[.pointer (some ⟨p,0,none⟩)] 175/\ay wx (w.heap.size+1) #[r_] 3/\TA X P (wH P.kC k T) p M1 wx/\(∀ q,M1.S p P.m q->q≠w.heap.size/\q≠w.heap.size+1)))
 case atStart=>exact⟨rfl,0,M,_,ae,ai ⟨aD.o,ax.o,aX.o,p8.o,fun q hq=>⟨(pK.o) q hq,(TE.o) q hq⟩⟩⟩
 case round =>
  rename World=>w2
  obtain⟨rfl,k,M1,r_,hkN,HH⟩:=hrel;obtain⟨T1,eT⟩:∃ T1,wH P.kC k T=T1:=⟨_,rfl⟩
  rw[eT] at HH;have EK:=ai eT;clear eT;have aM:=ai HH.o.1;have az:=ai HH.o.2.1;have c7:=ai HH.o.2.2.1;have j0:=ai HH.o.2.2.2.1;have PR:Hid (∀ q,M1.S p P.m q->q≠w.heap.size):=ai (fun q hq=>(HH.o.2.2.2.2 q hq).1);have tm:Hid (∀ q,M1.S p P.m q->q≠w.heap.size+1):=ai (fun q hq=>(HH.o.2.2.2.2 q hq).2);clear HH;have JM:=ai (EK.o▸TL.o.itF k:Good P T1);have Ht:=ai (SZ T1 JM.o.inv);rcases MP P T1 with e1|⟨r,e1,hr,hb,hc⟩
  ·have HP:=ai (MQ (by omega:P.qp T1<0));have HE:=ai e1;clear e1;have aG:=az.o.cell 0 rfl;have Hi:=j0.o.c1;go_wp2_with fail;refine cto (wB (HG.o.ext (aM.o.ext)) (j0.o) HE.o (az.o) hm) fun w3 e3=>?_
   have bA:=ai (aM.o.trans e3);have jZ:=ai (j0.o.ext e3);have aA:=ai (az.o.ext e3);have br:=ai (c7.o.ext e3);clear e3 aG Hi;have cH:=br.o.cell 0 rfl;have ji:=br.o.free 0;go_upto_region 2 with fail
   refine aB (fun W=>Mv X w (fun k=>X.heap.size<=k) W/\TA X P T1 p M1 W/\ay W (w.heap.size) (#[.pointer (some ⟨p,0,none⟩)]) 175/\ay W (w.heap.size+1) (#[.int .i64 (-1)]) 3) ⟨(bA.o.setCell (Or.inr (aS.o)) _),(jZ.o.other (a:=⟨w.heap.size+1,0,none⟩) _ (tm.o)),(aA.o.other (a:=⟨w.heap.size+1,0,none⟩) _ ah),(br.o.set 0 (.int .i64 (-1)))⟩ ?_;rintro w4 ⟨e4,EB,dV,jW⟩;have bO:=ai e4;have gV:=ai EB;have aJ:=ai dV;have aW:=ai jW;clear e4 EB dV jW cH ji;have cH:=aW.o.cell 0 rfl;have ji:=aW.o.free 0;go_wp2_with fail;refine aB (fun W=>Mv X w (fun k=>X.heap.size<=k) W/\TA X P T1 p M1 W/\ay W (w.heap.size) (#[.pointer (some ⟨p,0,none⟩)]) 175/\ay W (w.heap.size+1) (#[.int .i64 0]) 3) ⟨(bO.o.setCell (Or.inr (aS.o)) _),(gV.o.other (a:=⟨w.heap.size+1,0,none⟩) _ (tm.o)),(aJ.o.other (a:=⟨w.heap.size+1,0,none⟩) _ ah),(aW.o.set 0 (.int .i64 0))⟩ ?_;rintro w5 ⟨e5,U8,eJ,fP⟩;have cX:=ai e5;have cw:=ai U8;have aT:=ai eJ;have bI:=ai fP;clear e5 U8 eJ fP cH ji;have eg:=bI.o.cell 0 rfl;refine bodyPost_ret (v:=.tuple #[.int .i64 0,.bool true]) (by simp[results,results123,go_sem,eg]) rfl ⟨T1,M1,cw.o,JM.o,cX.o.ext,Or.inl ⟨rfl,HP.o⟩⟩
  ·have HE:=ai e1;clear e1;have HR:=ai hr;have HB:=ai hb;have HC:=ai hc;clear hr hb hc;have hr0:¬ (r:Int)<0:=ae;have aG:=az.o.cell 0 rfl;have Hi:=j0.o.c1;go_wp2_with fail;refine cto (wB (HG.o.ext (aM.o.ext)) (j0.o) HE.o (az.o) hm) fun w3 e3=>?_
   have bA:=ai (aM.o.trans e3);have jZ:=ai (j0.o.ext e3);have aA:=ai (az.o.ext e3);have br:=ai (c7.o.ext e3);clear e3 aG Hi;have cH:=br.o.cell 0 rfl;have ji:=br.o.free 0;go_upto_region 2 with fail
   refine aB (fun W=>Mv X w (fun k=>X.heap.size<=k) W/\TA X P T1 p M1 W/\ay W (w.heap.size) (#[.pointer (some ⟨p,0,none⟩)]) 175/\ay W (w.heap.size+1) (#[.int .i64 (r:Int)]) 3) ⟨(bA.o.setCell (Or.inr (aS.o)) _),(jZ.o.other (a:=⟨w.heap.size+1,0,none⟩) _ (tm.o)),(aA.o.other (a:=⟨w.heap.size+1,0,none⟩) _ ah),(br.o.set 0 (.int .i64 (r:Int)))⟩ ?_;rintro w4 ⟨e4,EB,dV,jW⟩;have bO:=ai e4;have gV:=ai EB;have aJ:=ai dV;have aW:=ai jW;clear e4 EB dV jW cH ji;have cH:=aW.o.cell 0 rfl;go_upto_region 4 with fail
   clear cH;rcases Tq P T1 r with e2|⟨a,e2,ha,hf⟩
   ·have yB:=ai (Tt HR.o HB.o HC.o (by omega:P.LX T1 r<0));have Fe:=ai e2;clear e2;have aG:=aJ.o.cell 0 rfl;have ti:=gV.o.c3;go_wp2_with fail;refine cto (wA (HG.o.ext (bO.o.ext)) (gV.o) Fe.o (aJ.o) (aW.o) HR.o hn) fun w5 e5=>?_
    have cX:=ai (bO.o.trans e5);have cw:=ai (gV.o.ext e5);have aT:=ai (aJ.o.ext e5);have bI:=ai (aW.o.ext e5);clear e5 aG ti;have cH:=bI.o.cell 0 rfl;have ji:=bI.o.free 0;go_wp2_with fail;refine aB (fun W=>Mv X w (fun k=>X.heap.size<=k) W/\TA X P T1 p M1 W/\ay W (w.heap.size) (#[.pointer (some ⟨p,0,none⟩)]) 175/\ay W (w.heap.size+1) (#[.int .i64 (r:Int)]) 3) ⟨(cX.o.setCell (Or.inr (aS.o)) _),(cw.o.other (a:=⟨w.heap.size+1,0,none⟩) _ (tm.o)),(aT.o.other (a:=⟨w.heap.size+1,0,none⟩) _ ah),(bI.o.set 0 (.int .i64 (r:Int)))⟩ ?_;rintro w6 ⟨e6,EA,lH,oU⟩;have gd:=ai e6;have je:=ai EA;have bC:=ai lH;have cx:=ai oU;clear e6 EA lH oU cH ji;have eg:=cx.o.cell 0 rfl;refine bodyPost_ret (v:=.tuple #[.int .i64 (r:Int),.bool false]) (by simp[results,results123,go_sem,eg]) rfl ⟨T1,M1,je.o,JM.o,gd.o.ext,Or.inr ⟨r,rfl,yB.o⟩⟩
   ·have Fe:=ai e2;clear e2;have HA:=ai ha;have Fc:=ai hf;clear ha hf;have py:¬ (a:Int)<0:=ae;have kp:=ai (Ms HE.o Fe.o);have HKN:Hid (k<N):=ai (NZ (fun _ h=>vC h) HN.o (by rw[EK.o];exact kp.o.1));have aG:=aJ.o.cell 0 rfl;have ti:=gV.o.c3;go_wp2_with fail;refine cto (wA (HG.o.ext (bO.o.ext)) (gV.o) Fe.o (aJ.o) (aW.o) HR.o hn) fun w5 e5=>?_
    have cX:=ai (bO.o.trans e5);have cw:=ai (gV.o.ext e5);have aT:=ai (aJ.o.ext e5);have bI:=ai (aW.o.ext e5);clear e5 aG ti;have aG:=aT.o.cell 0 rfl;have cH:=bI.o.cell 0 rfl;go_wp2_with fail;refine(Az HG.o cX.o.ext cw.o HR.o HA.o Fc.o hn hm jo kn Ht.o).mono ?_;rintro e w6 ⟨rfl,m_,kz,g_,t_⟩;have gd:Hid (Mv X w (fun k=>X.heap.size<=k) w6):=ai (cX.o.comp m_ (fun k hk=>Or.inl (cw.o.up k hk)));have bC:Hid (ay w6 (w.heap.size) (#[.pointer (some ⟨p,0,none⟩)]) 175):=ai (m_.aH aT.o (fun hk=>PR.o _ hk rfl));have JJ:Hid (∀ k,(M1.vU r kz P.n).S p P.m k->k≠w.heap.size):=ai (TM.vT PR.o aT.o.lt g_);have cx:Hid (ay w6 (w.heap.size+1) (#[.int .i64 (r:Int)]) 3):=ai (m_.aH bI.o (fun hk=>tm.o _ hk rfl));have qdk:Hid (∀ k,(M1.vU r kz P.n).S p P.m k->k≠w.heap.size+1):=ai (TM.vT tm.o bI.o.lt g_);have je:=ai t_;clear m_ g_ t_ aG cH;go_wp2_with fail;go_roundg (gk-1)
    case rel=>exact⟨rfl,k+1,(M1.vU r kz P.n),_,ae,ai ⟨gd.o,bC.o,cx.o,(by rw[wH,EK.o,kp.o.2];exact je.o),fun q hq=>⟨(JJ.o) q hq,(qdk.o) q hq⟩⟩⟩
    case measure=>have:=HKN.o;omega
theorem Gf(P:LP)(T:bT)(p:Nat)(M:TM)(q:Nat)(X w:World)(g:Gd X)(hX:Ext X w)(hT:TA X P T p M w)(SZ:Vm P q)(hn:P.n<=1000)(hm:P.m<=1000)(jo:1<=q)(kn:q<=400)(hG:Good P T)(hP:Pos P T):Calls prog 125 #[.pointer (some ⟨p,0,none⟩)] w (qhO X P p):=by
 have HG:=ai g;have Qx:=ai hT;have TL:=ai hG;have ep:=ai hP;clear g hT hG hP;have zE:Hid (Mv X w (fun k=>X.heap.size<=k) w):=ai (Mv.refl hX (fun k h=>h));clear hX;go_enter func125,ntmps125;go_upto_region 1 with fail
 have pK:Hid (∀ q_,M.S p P.m q_->q_≠w.heap.size):=ai (Qx.o.ne ah);refine aB (fun W=>Mv X w (fun k=>X.heap.size<=k) W/\TA X P T p M W/\ay W (w.heap.size) (#[.pointer (some ⟨p,0,none⟩)]) 175) ⟨(zE.o.alloc _),(Qx.o.alloc _),(ay.nw (#[.pointer (some ⟨p,0,none⟩)]) 175)⟩ ?_;rintro w1 ⟨e1,EC,a7⟩;have aD:=ai e1;have p8:=ai EC;have ax:=ai a7;have aF:Hid (w.heap.size<=w.heap.size):=ai (Nat.le_refl _);clear e1 EC a7;rcases V8 P T with⟨a,e0,ha,ho,hw⟩|e0
 ·have Zt:=ai e0;have HA:=ai ha;have HO:=ai ho;have HW:=ai hw;clear e0 ha ho hw;have py:(0:Int)<=(a:Int):=ae;have aG:=ax.o.cell 0 rfl;have ti:=p8.o.c3;go_wp2_with fail;refine cto (wy (HG.o.ext (aD.o.ext)) (p8.o) Zt.o (ax.o) hn) fun w2 e2=>?_
  have aM:=ai (aD.o.trans e2);have j0:=ai (p8.o.ext e2);have az:=ai (ax.o.ext e2);clear e2 aG ti;go_wp2;go_ret2;exact⟨T,M,j0.o,TL.o,aM.o.ext,Or.inl ⟨a,rfl,ep.o,HA.o,HO.o,HW.o⟩⟩
 ·have Zt:=ai e0;have HGM:Hid (kg P T):=ai ⟨TL.o.inv,TL.o.fz,Tr ae,ep.o⟩;obtain⟨N,hN⟩:=NH HGM.o;have HN:=ai hN;clear hN e0;have aG:=ax.o.cell 0 rfl;have ti:=p8.o.c3;go_wp2_with fail;refine cto (wy (HG.o.ext (aD.o.ext)) (p8.o) Zt.o (ax.o) hn) fun w2 e2=>?_
  have aM:=ai (aD.o.trans e2);have j0:=ai (p8.o.ext e2);have az:=ai (ax.o.ext e2);clear e2 aG ti;go_wp2_with fail;go_loopg [3] N (fun gk bY wx=>bY = .bool false/\∃ (k:Nat) (M1:TM) ,N<=k+gk/\Hid (Mv X w (fun k=>X.heap.size<=k) wx/\ay wx (w.heap.size) #[.pointer (some ⟨p,0,none⟩)] 175/\TA X P (wH P.kB k T) p M1 wx/\(∀ q,M1.S p P.m q->q≠w.heap.size)))
  case atStart=>exact⟨rfl,0,M,ae,ai ⟨aM.o,az.o,j0.o,fun q hq=>(pK.o) q hq⟩⟩
  case round =>
   rename World=>w3
   obtain⟨rfl,k,M1,hkN,HH⟩:=hrel;obtain⟨T1,eT⟩:∃ T1,wH P.kB k T=T1:=⟨_,rfl⟩
   rw[eT] at HH;have EK:=ai eT;clear eT;have bA:=ai HH.o.1;have aA:=ai HH.o.2.1;have jZ:=ai HH.o.2.2.1;have PO:Hid (∀ q,M1.S p P.m q->q≠w.heap.size):=ai (fun q hq=>(HH.o.2.2.2 q hq));clear HH;have JM:=ai (EK.o▸HGM.o.itM k:kg P T1);have Ht:=ai (SZ T1 JM.o.inv);rcases W6 P T1 with e1|⟨a,e1,ha,ho,hw⟩
   ·have L4:=ai (Ts (by omega:P.Ho T1<0));have HE:=ai e1;clear e1;have aG:=aA.o.cell 0 rfl;have ti:=jZ.o.c3;go_wp2_with fail;refine cto (wv (HG.o.ext (bA.o.ext)) (jZ.o) HE.o (aA.o) hn) fun w4 e4=>?_
    have bO:=ai (bA.o.trans e4);have gV:=ai (jZ.o.ext e4);have aJ:=ai (aA.o.ext e4);clear e4 aG ti;go_wp2;go_ret2;exact⟨T1,M1,gV.o,JM.o.qb3,bO.o.ext,Or.inr (Or.inl ⟨rfl,JM.o,L4.o⟩)⟩
   ·have HE:=ai e1;clear e1;have HA:=ai ha;have HO:=ai ho;have HW:=ai hw;clear ha ho hw;have py:¬ (a:Int)<0:=ae;have aG:=aA.o.cell 0 rfl;have ti:=jZ.o.c3;go_wp2_with fail;refine cto (wv (HG.o.ext (bA.o.ext)) (jZ.o) HE.o (aA.o) hn) fun w4 e4=>?_
    have bO:=ai (bA.o.trans e4);have gV:=ai (jZ.o.ext e4);have aJ:=ai (aA.o.ext e4);clear e4 aG ti;go_upto_region 7 with fail
    rcases NJ P T1 a with e2|⟨r,e2,hr,hf⟩
    ·have HFN:=ai (W9 (by omega:P.lv T1 a P.m<0));have Fe:=ai e2;clear e2;have aG:=aJ.o.cell 0 rfl;go_wp2_with fail;refine cto (IU (HG.o.ext (bO.o.ext)) (gV.o) Fe.o HA.o hm Ht.o jo kn) fun w5 e5=>?_
     have cX:=ai (bO.o.trans e5);have cw:=ai (gV.o.ext e5);have aT:=ai (aJ.o.ext e5);clear e5 aG;go_wp2;go_ret2;exact⟨T1,M1,cw.o,JM.o.qb3,cX.o.ext,Or.inr (Or.inr ⟨a,rfl,JM.o,HA.o,HO.o,HW.o,HFN.o⟩)⟩
    ·have Fe:=ai e2;clear e2;have HR:=ai hr;have Fc:=ai hf;clear hr hf;have hr0:¬ (r:Int)<0:=ae;have kp:=ai (Mr HE.o Fe.o);have HKN:Hid (k<N):=ai (NZ (fun _ h=>vB h) HN.o (by rw[EK.o];exact kp.o.1));have aG:=aJ.o.cell 0 rfl;go_wp2_with fail;refine cto (IU (HG.o.ext (bO.o.ext)) (gV.o) Fe.o HA.o hm Ht.o jo kn) fun w5 e5=>?_
     have cX:=ai (bO.o.trans e5);have cw:=ai (gV.o.ext e5);have aT:=ai (aJ.o.ext e5);clear e5 aG;have aG:=aT.o.cell 0 rfl;go_wp2_with fail;refine(Az HG.o cX.o.ext cw.o HR.o HA.o Fc.o hn hm jo kn Ht.o).mono ?_;rintro e w6 ⟨rfl,m_,kz,g_,t_⟩;have gd:Hid (Mv X w (fun k=>X.heap.size<=k) w6):=ai (cX.o.comp m_ (fun k hk=>Or.inl (cw.o.up k hk)));have bC:Hid (ay w6 (w.heap.size) (#[.pointer (some ⟨p,0,none⟩)]) 175):=ai (m_.aH aT.o (fun hk=>PO.o _ hk rfl));have JJ:Hid (∀ k,(M1.vU r kz P.n).S p P.m k->k≠w.heap.size):=ai (TM.vT PO.o aT.o.lt g_);have je:=ai t_;clear m_ g_ t_ aG;go_wp2_with fail;go_roundg (gk-1)
     case rel=>exact⟨rfl,k+1,(M1.vU r kz P.n),ae,ai ⟨gd.o,bC.o,(by rw[wH,EK.o,kp.o.2];exact je.o),fun q hq=>(JJ.o) q hq⟩⟩
     case measure=>have:=HKN.o;omega
