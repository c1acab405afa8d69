/- Part 31. -/
import Derived.Test.YtmahadmefplbnaaGreatDoorQTDB
import Derived.Test.YtmahadmefplbnaaGreatDoorQTD30
import Derived.Laws.AppendOwn
set_option maxRecDepth 100000
set_option maxHeartbeats 2000000
open Go.Proofs.Tryz
set_option linter.unusedSimpArgs false
set_option linter.unusedVariables false
namespace Go.Proofs.YtmahadmefplbnaaGreatDoor
open Go Go.RowKit
def bh(X w:World)(t:TypeId)(sz:Nat)(v:Value)(n:Nat)(G:Nat->Value):Prop :=
 (v = .slice none 0 0/\n=0)∨∃ (k cap:Nat) (C:Array Value),v = .slice (some ⟨k,0,none⟩) n cap/\X.heap.size<=k/\ax w k C t/\n<=cap/\cap<=maxLen/\C.size=cap*sz/\∀ i,i<n*sz->C[i]?=some (G i)
def c7(v:Value)(k:Nat):Prop:=v.ownBlock=some k
theorem iL{k:Nat}:¬ c7 (.slice none 0 0) k:=fun h=>by simp[c7,Value.ownBlock] at h
theorem dL{k k' n c:Nat}:c7 (.slice (some ⟨k,0,none⟩) n c) k' ↔ k=k':=by simp[c7,Value.ownBlock]
section
variable {X w w':World} {t:TypeId} {sz n:Nat} {v:Value} {G G':Nat->Value}
theorem bh.nil(X w:World)(t:TypeId)(sz:Nat)(G:Nat->Value):bh X w t sz (.slice none 0 0) 0 G:=Or.inl ⟨rfl,rfl⟩
theorem bh.aF(h:bh X w t sz v n G)(hn:0<n):∃ (k cap:Nat) (C:Array Value),v = .slice (some ⟨k,0,none⟩) n cap/\X.heap.size<=k/\ax w k C t/\n<=cap/\cap<=maxLen/\C.size=cap*sz/\∀ i,i<n*sz->C[i]?=some (G i):=by
 rcases h with⟨_,h⟩|h
 ·omega
 ·exact h
theorem bh.congr(h:bh X w t sz v n G)(e:∀ i,i<n*sz->G i=G' i):bh X w t sz v n G':=by
 rcases h with h|⟨k,cap,C,h1,h2,h3,h4,h5,h6,h7⟩
 ·exact Or.inl h
 ·exact Or.inr ⟨k,cap,C,h1,h2,h3,h4,h5,h6,fun i hi=>by rw[← e i hi];exact h7 i hi⟩
theorem bh.ext(h:bh X w t sz v n G)(e:Ext w w'):bh X w' t sz v n G:=by
 rcases h with h|⟨k,cap,C,h1,h2,h3,h4⟩
 ·exact Or.inl h
 ·exact Or.inr ⟨k,cap,C,h1,h2,h3.ext e,h4⟩
theorem bh.mv{Y w0:World}{S:Nat->Prop}(h:bh X w0 t sz v n G)(m:Mv Y w0 S w')(hs:∀ k,c7 v k->¬ S k):bh X w' t sz v n G:=by
 rcases h with h|⟨k,cap,C,h1,h2,h3,h4⟩
 ·exact Or.inl h
 ·exact Or.inr ⟨k,cap,C,h1,h2,m.aF h3 (hs k (by rw[h1];exact dL.2 rfl)),h4⟩
theorem bh.lt(h:bh X w t sz v n G){k:Nat}(hk:c7 v k):X.heap.size<=k/\k<w.heap.size:=by
 rcases h with⟨h,_⟩|⟨k',cap,C,h1,h2,h3,h4⟩
 ·rw[h] at hk;exact absurd hk iL
 ·rw[h1] at hk;rw[← dL.1 hk];exact⟨h2,h3.lt⟩
theorem bh.rd(h:bh X w t 1 v n G):Rd w v n G:=by
 rcases h with⟨rfl,rfl⟩|⟨k,cap,C,rfl,h2,h3,h4,h5,h6,h7⟩
 ·exact Rd.nil w G
 ·exact Rd.aF h3 h4 h5 (fun i hi=>h7 i ae)
end
def app(k:Nat)(G H:Nat->Value)(i:Nat):Value:=if i<k then G i else H (i-k)
theorem dF{k i:Nat}{G H:Nat->Value}(h:i<k):app k G H i=G i:=if_pos h
theorem dw{k i:Nat}{G H:Nat->Value}(h:¬ i<k):app k G H i=H (i-k):=if_neg h
theorem gA{n i:Nat}{G:Nat->Value}(h:i<n):((List.range n).map G)[i]?=some (G i):=by simp[h]
theorem Be{a b i:Nat}{G H:Nat->Value}(h:i<a+b)(rest:List Value):((List.range a).map G ++ (List.range b).map H ++ rest)[i]?=some (app a G H i):=by
 by_cases hi:i<a
 ·rw[dF hi,List.append_assoc,List.getElem?_append_left (by simpa using hi)];exact gA hi
 ·rw[dw hi,List.append_assoc,List.getElem?_append_right (by simpa using hi),List.getElem?_append_left (by simp;omega)];simp only[List.length_map,List.length_range];exact gA ae
section
variable {P:Program} {X w:World} {e:TypeId} {z:Value} {sz bytes n m c cap:Nat} {v:Value} {G H:Nat->Value} {ad:Addr}
structure App(X w:World)(e:TypeId)(sz:Nat)(v:Value)(n m:Nat)(G H:Nat->Value)(v':Value)(w':World):Prop where
 own:bh X w' e sz v' (n+m) (app (n*sz) G H)
 mv:Mv X w (c7 v) w'
 new:∀ k,c7 v' k->c7 v k∨w.heap.size<=k
theorem yu(hX:Ext X w){S:Nat->Prop}(hS:∀ k,S k->X.heap.size<=k)(o:Obj):Mv X w S (w.drew.alloc o):=((Mv.refl hX hS).drew).alloc o
theorem ot (hX:Ext X w) (cs:Array Value) (hcm:cap<=maxLen) (hnc:n+m<=cap) (hsz:cs.size=cap*sz) (hc:∀ i,i<(n+m)*sz->cs[i]?=some (app (n*sz) G H i)) (hv:∀ k,c7 v k->X.heap.size<=k) :
    App X w e sz v n m G H (.slice (some ⟨w.heap.size,0,none⟩) (n+m) cap) (w.drew.alloc (.cells cs e)) :=
 ⟨Or.inr ⟨_,_,cs,rfl,hX.size,ax.new _ _ _,hnc,hcm,hsz,hc⟩,yu hX hv _,fun k hk=>Or.inr (by rw[dL] at hk;omega)⟩
theorem nt{old:Nat}(xs ys:List Value)(hx:xs.length=n*sz)(hy:ys.length=m*sz)(hz:z.cells.size=sz)(hc:n+m<=cap):(xs.toArray ++ ys.toArray ++ Builtin.zeroCells z.cells (cap-(n+m))).size=cap*sz:=by
 simp only[Array.size_append,List.size_toArray,size_zeroCells,hz,hx,hy,← Nat.add_mul];congr 1;omega
theorem oK(zs:Array Value){a b i:Nat}(hi:i<a+b):(((List.range a).map G).toArray ++ ((List.range b).map H).toArray ++ zs)[i]?=some (app a G H i):=by
 have:=Be (G:=G) (H:=H) hi zs.toList;rw[← Array.getElem?_toList];simpa using this
theorem uQ(hsrc:∀ j,j<m*sz->w.cell? (ad.add j)=some (H j)):∀ j u,((List.range (m*sz)).map H)[j]?=some u->w.cell? (ad.add j)=some u:=by
 intro j u hu;by_cases hj:j<m*sz
 ·rw[gA hj] at hu;rw[hsrc j hj];exact hu
 ·rw[List.getElem?_eq_none (by simp;omega)] at hu;cases hu
theorem cZ{k:Nat}{C:Array Value}{t:TypeId}(h:ax w k C t){j:Nat}{u:Value}(hu:C[j]?=some u):w.cell? ((⟨k,0,none⟩:Addr).add j)=some u:=by
 have e:(⟨k,0,none⟩:Addr).add j=⟨k,j,none⟩:=by unfold Addr.add;split <;> simp_all
 rw[e];exact h.cell j hu
theorem sc {t ty : TypeId} (ht : P.underlying t = some (.slice e)) (hi : (P.info? e).map (fun i => (i.zero, i.size, i.bytes)) = some (some z, sz, bytes)) (hzs : z.cells.size = sz)
    (hX:Ext X w) (h:bh X w e sz v n G) (hm0:v = .slice none 0 0->0<m) (hsrc:∀ j,j<m*sz->w.cell? (ad.add j)=some (H j)) (h1:∀ j,j<m*sz->(H j).oneCell'=true) (h63:n+m<=maxLen) (hb:(n+m)*bytes<=140737488355328) :
    ∃ v' w',(Builtin.append_ #[t,t] ty #[v,.slice (some ad) m c]).run P w = .ok v' w'/\App X w e sz v n m G H v' w':=by
 obtain⟨i,hi0,hi1⟩:∃ i,P.info? e=some i/\(i.zero,i.size,i.bytes)=(some z,sz,bytes):=by
  cases hh:P.info? e with
  | none=>rw[hh] at hi;cases hi
  | some i=>rw[hh] at hi;exact⟨i,rfl,Option.some.inj hi⟩
 simp only[Prod.mk.injEq] at hi1;obtain⟨hz,hs,hby⟩:=hi1;subst hs;subst hby;have hns:=uQ hsrc;have hone:∀ u ∈ (List.range (m*i.size)).map H,u.oneCell'=true:=fun u hu=>by
  simp only[List.mem_map,List.mem_range] at hu;obtain⟨j,hj,rfl⟩:=hu;exact h1 j hj
 have hsmall:n+m<=9223372036854775807:=by simp only[maxLen] at h63;omega
 have hup:∀ k,c7 v k->X.heap.size<=k:=fun k hk=>(h.lt hk).1
 rcases h with⟨rfl,rfl⟩|⟨k,cap,C,rfl,hk,hB,hnc,hcm,hsz,hC⟩
 ·refine ⟨_,_,run_append_nil (P:=P) w t ty e i z ht hi0 hz ad m c _ (by simp) hns (hm0 rfl) ae (by rw [Nat.zero_add] at hb;omega),?_⟩;have hge:=grownCap_ge w m 0 e;have hm1:=hm0 rfl;have:=ot (G:=G) (H:=H) (n:=0) (m:=m) (sz:=i.size) (e:=e) (v:=.slice none 0 0) (cap:=grownCap w m 0 e) hX (((List.range (0*i.size)).map G).toArray ++ ((List.range (m*i.size)).map H).toArray ++ Builtin.zeroCells z.cells (grownCap w m 0 e-(0+m)))
   (grownCap_le_maxLen w m 0 e ae) ae (nt (old:=0) _ _ (by simp) (by simp) hzs ae) (fun j hj=>oK _ (by rw[← Nat.add_mul];exact hj)) hup
  simpa using this
 ·by_cases hroom:n+m<=cap
  ·have hfit:n*i.size+((List.range (m*i.size)).map H).length<=C.size:=by simp only[List.length_map,List.length_range];rw[hsz,← Nat.add_mul];exact Nat.mul_le_mul_right _ hroom
   refine⟨_,_,run_append_room (P:=P) w t ty e i ht hi0 k n cap C hB.out ad m c _ (by simp) hns hone hroom hfit,?_,?_,?_⟩
   ·refine Or.inr ⟨k,cap,_,rfl,hk,hB.setRow,hroom,hcm,?_,fun j hj=>?_⟩
    ·simp only[List.size_toArray,List.length_append,List.length_take,List.length_drop,Array.length_toList,List.length_map,List.length_range] at hfit ⊢;omega
    ·have hl:(C.toList.take (n*i.size)).length=n*i.size:=by simp only[List.length_map,List.length_range] at hfit;simp;omega
     rw[Nat.add_mul] at hj;simp only[List.getElem?_toArray];by_cases h1:j<n*i.size
     ·rw[dF h1,List.append_assoc,List.getElem?_append_left ae,List.getElem?_take,if_pos h1,Array.getElem?_toList];exact hC j h1
     ·rw[dw h1,List.append_assoc,List.getElem?_append_right ae,hl,List.getElem?_append_left (by simp;omega)];exact gA ae
   ·exact(Mv.refl hX hup).setRow (Or.inl (dL.2 rfl)) hB
   ·exact fun k' hk'=>Or.inl (dL.2 (dL.1 hk'))
  ·have hlt:n*i.size<=C.size:=by rw[hsz];exact Nat.mul_le_mul_right _ hnc
   have holds:∀ j u,((List.range (n*i.size)).map G)[j]?=some u->w.cell? ((⟨k,0,none⟩:Addr).add j)=some u:=fun j u hu=>by
    by_cases hj:j<n*i.size
    ·rw[gA hj] at hu;rw[cZ hB (hC j hj)];exact hu
    ·rw[List.getElem?_eq_none (by simp;omega)] at hu;cases hu
   refine⟨_,_,run_append_grow (P:=P) w t ty e i z ht hi0 hz ⟨k,0,none⟩ n cap _ (by simp) holds ad m c _ (by simp) hns ae ae (growslice_fits ae hb),?_⟩;have hge:=grownCap_ge w (n+m) cap e;exact ot hX _ (grownCap_le_maxLen w (n+m) cap e h63) hge (nt (old:=0) _ _ (by simp) (by simp) hzs ae) (fun j hj=>oK _ (by rw[← Nat.add_mul];exact hj)) hup
theorem fD {o:Oper} {a:Act} {Q:Exit->Act->World->Prop} {K:Act->World->Prop} {s x:Operand} {t:TypeId} (ho:o.op = .call { callee:=.builtin .append,args:=#[s,x],argTypes:=#[t,t] })
    (hs:a.eval s=v) (hx:a.eval x = .slice (some ad) m c) (ht:P.underlying t=some (.slice e)) (hi:(P.info? e).map (fun i=>(i.zero,i.size,i.bytes))=some (some z,sz,bytes)) (hzs:z.cells.size=sz)
    (hX:Ext X w) (h:bh X w e sz v n G) (hm0:v = .slice none 0 0->0<m) (hsrc:∀ j,j<m*sz->w.cell? (ad.add j)=some (H j)) (h1:∀ j,j<m*sz->(H j).oneCell'=true) (h63:n+m<=maxLen) (hb:(n+m)*bytes<=140737488355328)
    (hK:∀ v' w',App X w e sz v n m G H v' w'->K (a.put o.dst v') w'):o.wp P a w K Q:=by
 obtain⟨v',w',hr,hA⟩:=sc (P:=P) (ty:=o.type) (c:=c) ht hi hzs hX h hm0 hsrc h1 h63 hb;unfold Oper.wp execOp;simp only[ho,resolve,invoke,builtin,Sem.run_bind,Sem.run_pure,Result.andThen_ok,List.map_toArray,List.map_cons,List.map_nil,hs,hx,hr];exact hK v' w' hA
end
theorem BV{q:Rat}(h:¬ q<0):0<=q:=by grind
theorem uW{q:Rat}(h:q<0):decide (0<=q)=false:=by
 rw[decide_eq_false_iff_not];grind
theorem DD(a b:Rat):(a<b/\fl a b=-1)∨(a=b/\fl a b=0)∨(b<a/\fl a b=1):=by
 unfold fl;by_cases h1:a<b
 ·exact Or.inl ⟨h1,if_pos h1⟩
 ·by_cases h2:a=b
  ·exact Or.inr (Or.inl ⟨h2,by rw[if_neg h1,if_pos h2]⟩)
  ·exact Or.inr (Or.inr ⟨by grind,by rw[if_neg h1,if_neg h2]⟩)
def Eg(T:aO)(a:Nat)(r:Int):ByteArray:=if r<0 then⟨#[]⟩ else qs (T.ratio a r.toNat)
theorem tZ{T:aO}{a:Nat}:Eg T a (-1)=⟨#[]⟩:=if_pos af
theorem iT{T:aO}{a i:Nat}:Eg T a (i:Int)=qs (T.ratio a i):=by unfold Eg;rw[if_neg ae,Int.toNat_natCast]
section
variable {P:LP} {T:aO} {a k i:Nat}
theorem AL(P:LP)(T:aO)(a k:Nat):P.lv T a k=-1∨∃ i:Nat,i<k/\P.lv T a k=(i:Int):=by
 rcases lj P T a k with⟨h,_⟩|⟨i,h1,h2,_⟩
 ·exact Or.inl h
 ·exact Or.inr ⟨i,h1,h2⟩
theorem lk(h:¬ P.n<=T.b k∨0<=T.f k a):P.lv T a (k+1)=P.lv T a k:=by rw[LP.lv,if_pos h]
theorem yz(h1:P.n<=T.b k)(h2:T.f k a<0):¬ (¬ P.n<=T.b k∨0<=T.f k a):=fun h=>h.elim (fun h=>h h1) (fun h=>by grind)
theorem qW(h1:P.n<=T.b k)(h2:T.f k a<0)(e:P.lv T a k=-1):P.lv T a (k+1)=(k:Int):=by rw[LP.lv,if_neg (yz h1 h2),if_neg (fun h=>ae)]
def Kp(T:aO)(a i k:Nat):Prop:=T.ratio a i<T.ratio a k∨T.ratio a i=T.ratio a k/\T.b i<T.b k
theorem ln(h1:P.n<=T.b k)(h2:T.f k a<0)(e:P.lv T a k=(i:Int))(h:Kp T a i k):P.lv T a (k+1)=(i:Int):=by
 rw[LP.lv,if_neg (yz h1 h2),e,Int.toNat_natCast,if_pos ⟨ae,h⟩]
theorem lh(h1:P.n<=T.b k)(h2:T.f k a<0)(e:P.lv T a k=(i:Int))(h:¬ Kp T a i k):P.lv T a (k+1)=(k:Int):=by
 rw[LP.lv,if_neg (yz h1 h2),e,Int.toNat_natCast,if_neg (fun h'=>h h'.2)]
theorem Dr(h:T.ratio a k<T.ratio a i):¬ Kp T a i k:=fun h'=>h'.elim (fun x=>by grind) (fun x=>by grind)
theorem DK(h:T.ratio a i<T.ratio a k):Kp T a i k:=Or.inl h
theorem DL(h:T.ratio a k=T.ratio a i)(hb:T.b i<T.b k):Kp T a i k:=Or.inr ⟨h.symm,hb⟩
theorem Ds(h:T.ratio a k=T.ratio a i)(hb:¬ T.b i<T.b k):¬ Kp T a i k:=fun h'=>h'.elim (fun x=>by grind) (fun x=>hb x.2)
end
theorem AN(P:LP)(T:aO)(p:Nat)(vb vl vo vw:Value)(vf:Nat->Value)(w:World)(at_:Nat){q:Nat}(g:Gd w)(hT:TR P T w p vb vl vo vw vf)(hat:at_<P.n)(hm:P.m<=1000)(Q:TQ P T q)(hq1:1<=q)(hq2:q<=400):Calls prog 206 #[.pointer (some ⟨p,0,none⟩),.int .i64 (at_:Int)] w (aR w (.int .i64 (P.lv T at_ P.m))):=by
 have HG:=aj g;have HAT:=aj hat;clear g hat;have HQc:=aj Q.c;have HQf:=aj Q.f;clear Q;have HQR:Hid (∀ i,i<P.m->QB (q+q) (T.ratio at_ i)):=aj (fun i hi=>(HQc.o i hi).div (HQf.o i hi at_ HAT.o).neg hq1);obtain⟨CP,b1,p0⟩:=hT.tab;obtain⟨bo,bc,rfl,zb1,nR,hb⟩:=hT.b;obtain⟨lo_,lc,rfl,zl1,zl2,hl⟩:=hT.l;obtain⟨oo,oc,rfl,zo1,zo2,ho⟩:=hT.o;obtain⟨wo,wcap,rfl,zw1,zw2,hw⟩:=hT.wf;have HF:=aj hT.f;have HTR:=aj hT;have HBp:=aj b1;have HP0:Hid (_/\_/\_/\_/\_/\_):=aj p0;have HRB:=aj hb;have HRL:=aj hl;have HRO:=aj ho;have HRW:=aj hw;clear b1 p0 hb hl ho hw hT zb1 nR zl1 zl2 zo1 zo2 zw1 zw2;have hat2:(at_:Int)<(P.n:Int):=by have:=HAT.o;omega
 go_enter func206,ntmps206;have cp_2:=HBp.o.cell (2) HP0.o.2.2.1;go_wp2_with fail;clear cp_2;go_loopw [17,5,6] (fun x0_ x1_ x2_ wx=>∃ k:Nat,x0_ = .int .i64 k/\x1_ = .int .i64 (P.lv T at_ k)/\x2_ = .string (Eg T at_ (P.lv T at_ k))/\k<=P.m/\Hid (Ext w wx)) (fun x0_ _ _ _=>P.m-(intOf x0_).toNat)
 case atStart=>exact⟨0,rfl,rfl,by rw[LP.lv,tZ],Nat.zero_le _,aj (Ext.refl w)⟩
 case round =>
  rename World=>w1
  obtain⟨k,rfl,rfl,rfl,hkk,HH⟩:=hrel;have HX1:=aj HH.o;have HBp_1:=aj (HBp.o.ext HX1.o);clear HH;by_cases hlt:k<P.m
  ·have hlt2:(k:Int)<((P.m:Nat):Int):=ae;obtain⟨ba,rfl,zb_⟩:=HRB.o k hlt;have HCb_k:=aj zb_;clear zb_;obtain⟨la,rfl,zl_,zm_⟩:=HRL.o k hlt;have HCl_k:=aj zl_;have HCm_k:=aj zm_;clear zl_ zm_;obtain⟨fo,fcap,ef_,_,_,hf_⟩:=HF.o k hlt;obtain⟨fa,rfl,zf_⟩:=hf_ at_ HAT.o;rw[ef_] at HCm_k;have HCf:=aj zf_;clear zf_ hf_ ef_;have cl_k___2:=az HX1.o (HCl_k.o);have cl_k___2___1:=az HX1.o (HCm_k.o);by_cases h1:P.n<=T.b k
   ·have h1p:=aj h1;clear h1;by_cases h2:T.f k at_<0
    ·have h3:=uW h2;have HF0:=aj h2;have HNZ:Hid (-T.f k at_≠0):=aj (by grind);clear h2;go_upto_region 6 with fail
     refine ay (fun W=>Ext w W/\ax W (p) (CP) 185/\ax W (w1.heap.size) (#[.string (qs (T.c k)),.slice (some fa) P.n fcap]) 182) ⟨(HX1.o.alloc _),(HBp_1.o.alloc _),(ax.nw (#[.string (qs (T.c k)),.slice (some fa) P.n fcap]) 182)⟩ ?_;rintro w2 ⟨e2,bBp_2,bB0_2⟩;have HX2:=aj e2;have HBp_2:=aj bBp_2;have HB0_2:=aj bB0_2;have HGEB0:Hid (w.heap.size<=w1.heap.size):=aj (HX1.o.size);clear e2 bBp_2 bB0_2 cl_k___2 cl_k___2___1;have cp_1:=HBp_2.o.cell (1) HP0.o.2.1;have cb_k:=az HX2.o (HCb_k.o);go_wp2_with fail;refine(aT (n:=P.n) p (T.b k) true _ (HBp_2.o) HP0.o.1 (by have:=h1p.out;simp;omega)).mono ?_;rintro e _ ⟨rfl,rfl⟩;clear cp_1 cb_k;have c0_1:=HB0_2.o.cell 1 rfl;have cf_at_:=az HX2.o (HCf.o);go_wp2_with fail;refine(di (T.f k at_) _).mono ?_;rintro e _ ⟨rfl,rfl⟩;clear c0_1 cf_at_;go_wp2_with fail;refine aD [.val (.pointer (some ⟨w1.heap.size,0,none⟩)),.val (.string (qs (T.c k))),.val (.pointer (some ⟨w1.heap.size,1,none⟩)),.val (.slice (some fa) P.n fcap),.val (.int .i64 (at_:Int)),.val (.pointer (some (fa.add at_))),.val (.string (qs (T.f k at_))),.val (.string (qs (-T.f k at_))),.val (.tuple #[.string (qs (T.c k / -T.f k at_)),.int .i64 0]),.val (.tuple #[.string (qs (T.c k / -T.f k at_)),.int .i64 0]),.val (.string (qs (T.c k / -T.f k at_))),.val (.int .i64 0),.val (.string (qs (T.c k / -T.f k at_))),.val (.int .i64 0)] (fun L g W=>True) (S:=fun _=>False) ag ag ag (Mv.refl HX2.o (fun k h=>h.elim)) ?_ ?_ ?_ ?_ (fun gv_ w3 hm_ he_=>?_)
     ·exact fun _=>trivial
     ·exact fun _ _ _ _ h _=>h
     ·exact fun _ _ _ _ _ _ h=>h
     ·skip
      exact RI 8 (.pointer (some ⟨w1.heap.size,0,none⟩))<|J2 (fun hs_=>hs_.val 0) (fun hs_=>(hs_.mv.aF HB0_2.o (fun h=>h)).cell 0 rfl)<|RI 8 (.pointer (some ⟨w1.heap.size,0,none⟩))<|J2 (fun hs_=>hs_.val 2) (fun hs_=>(hs_.mv.aF HB0_2.o (fun h=>h)).cell 1 rfl)<|RI 1 (.int .i64 (at_:Int))<|R2 3 4<|J2 (fun hs_=>hs_.val 5) (fun hs_=>az hs_.mv.ext (HCf.o))<|K1 (fun hs_=>hs_.val 6) (fun _=>gJ (T.f k at_) _ (HQf.o k hlt at_ HAT.o) ae)<|K2 (fun hs_=>hs_.val 1) (fun hs_=>hs_.val 7) (fun hs_=>lY (T.c k) (-T.f k at_) _ (HG.o.ext hs_.mv.ext) (HQc.o k hlt) (HQf.o k hlt at_ HAT.o).neg ae ae ae HNZ.o)<|R1 8<|R1 9<|R1 9<|R1 10<|R1 11<|aB.nil
     simp only[fT,Ke.value,bD,Act.put,List.setIfInBounds_toArray,List.set_cons_zero,List.set_cons_succ];have HX3:Hid (Ext w w3):=aj hm_.ext;have HBp_3:=aj (hm_.aF HBp_2.o (fun h=>h));clear hm_ he_;go_upto_region 9 with fail
     rcases AL P T at_ k with e0|⟨i0,z1,e0⟩
     ·rw[e0,tZ];have HE:=aj e0;clear e0;go_wp2_with fail;go_roundw
      case rel=>exact⟨k+1,by go_num,by rw[qW h1p.out HF0.o HE.o],by rw[qW h1p.out HF0.o HE.o,iT];rfl,ae,aj HX3.o⟩
      case measure=>simp[intOf];omega
     ·rw[e0,iT];have HE:=aj e0;have hi0:=z1;clear e0 z1;have hn0:(0:Int)<=(i0:Int):=ae;have hi2:(i0:Int)<(P.m:Int):=ae;go_wp2_with fail;refine cto (l5 (T.c k / -T.f k at_) (T.ratio at_ i0) _ (HG.o.ext (HX3.o)) ((HQc.o k hlt).div (HQf.o k hlt at_ HAT.o).neg ae) (HQR.o i0 ae) ae ae) fun w4 e4=>?_
      have HX4:=aj (HX3.o.trans e4);have HBp_4:=aj (HBp_3.o.ext e4);clear e4;go_upto_region 11 with fail
      have HCb_i0:=aj (uH (HRB.o i0 ae));rcases DD (T.ratio at_ k) (T.ratio at_ i0) with⟨c1,c2⟩|⟨c1,c2⟩|⟨c1,c2⟩
      ·have HTK:=aj (Dr c1);rw[show fl (T.c k / -T.f k at_) (T.ratio at_ i0)=(-1) from c2];clear c1 c2;go_wp2_with fail;refine aD [.val (.int .i64 (-1)),.val (.bool false),.val (.bool false),.val (.int .i64 (-1)),.val (.bool false),.val (.bool false),.off,.off,.off,.off,.off,.off,.off,.off,.off,.off,.off,.off,.off,.off,.off,.val (.bool false),.val (.bool false)] (fun L g W=>True) (S:=fun _=>False) ag ag ag (Mv.refl HX4.o (fun k h=>h.elim)) ?_ ?_ ?_ ?_ (fun gv_ w5 hm_ he_=>?_)
       ·exact fun _=>trivial
       ·exact fun _ _ _ _ h _=>h
       ·exact fun _ _ _ _ _ _ h=>h
       ·skip
        exact RI 11 (.int .i64 (-1))<|R1 0<|R1 1<|RI 11 (.int .i64 (-1))<|R1 3<|R1 4<|RO<|RO<|RO<|RO<|RO<|RO<|RO<|RO<|RO<|RO<|RO<|RO<|RO<|RO<|RO<|J2 (fun hs_=>hs_.val 5) (fun hs_=>hs_.un 20)<|R2 2 21<|aB.nil
       simp only[fT,Ke.value,bD,Act.put,List.setIfInBounds_toArray,List.set_cons_zero,List.set_cons_succ];have HX5:Hid (Ext w w5):=aj hm_.ext;have HBp_5:=aj (hm_.aF HBp_4.o (fun h=>h));clear hm_ he_;go_wp2_with fail;go_roundw
       case rel=>exact⟨k+1,by go_num,by rw[lh h1p.out HF0.o HE.o HTK.o],by rw[lh h1p.out HF0.o HE.o HTK.o,iT];rfl,ae,aj HX5.o⟩
       case measure=>simp[intOf];omega
      ·by_cases hb:T.b i0<T.b k
       ·have HKP:=aj (DL c1 hb);have hb2:((T.b i0:Nat):Int)<((T.b k:Nat):Int):=ae;clear hb;rw[show fl (T.c k / -T.f k at_) (T.ratio at_ i0)=0 from c2];clear c1 c2;go_wp2_with fail;refine aD [.val (.int .i64 0),.val (.bool false),.val (.bool false),.val (.int .i64 0),.val (.bool true),.val (.bool true),.val (.pointer (some ⟨p,0,none⟩)),.val (.pointer (some ⟨p,0,none⟩)),.val (.pointer (some ⟨p,1,none⟩)),.val (.slice (some ba) P.m bc),.val (.int .i64 (k:Int)),.val (.pointer (some (ba.add k))),.val (.int .i64 (T.b k:Int)),.val (.pointer (some ⟨p,0,none⟩)),.val (.pointer (some ⟨p,0,none⟩)),.val (.pointer (some ⟨p,1,none⟩)),.val (.slice (some ba) P.m bc),.val (.int .i64 (i0:Int)),.val (.pointer (some (ba.add i0))),.val (.int .i64 (T.b i0:Int)),.val (.bool true),.val (.bool true),.val (.bool true)] (fun L g W=>True) (S:=fun _=>False) ag ag ag (Mv.refl HX4.o (fun k h=>h.elim)) ?_ ?_ ?_ ?_ (fun gv_ w5 hm_ he_=>?_)
        ·exact fun _=>trivial
        ·exact fun _ _ _ _ h _=>h
        ·exact fun _ _ _ _ _ _ h=>h
        ·skip
         exact RI 11 (.int .i64 0)<|R1 0<|R1 1<|RI 11 (.int .i64 0)<|R1 3<|R1 4<|RI 0 (.pointer (some ⟨p,0,none⟩))<|R1 6<|R1 7<|J2 (fun hs_=>hs_.val 8) (fun hs_=>(hs_.mv.aF HBp_4.o (fun h=>h)).cell (1) HP0.o.2.1)<|RI 7 (.int .i64 (k:Int))<|R2 9 10<|J2 (fun hs_=>hs_.val 11) (fun hs_=>az hs_.mv.ext (HCb_k.o))<|RI 0 (.pointer (some ⟨p,0,none⟩))<|R1 13<|R1 14<|J2 (fun hs_=>hs_.val 15) (fun hs_=>(hs_.mv.aF HBp_4.o (fun h=>h)).cell (1) HP0.o.2.1)<|RI 5 (.int .i64 (i0:Int))<|R2 16 17<|J2 (fun hs_=>hs_.val 18) (fun hs_=>az hs_.mv.ext (HCb_i0.o))<|R2 12 19<|R2 5 20<|R2 2 21<|aB.nil
        simp only[fT,Ke.value,bD,Act.put,List.setIfInBounds_toArray,List.set_cons_zero,List.set_cons_succ];have HX5:Hid (Ext w w5):=aj hm_.ext;have HBp_5:=aj (hm_.aF HBp_4.o (fun h=>h));clear hm_ he_;go_wp2_with fail;go_roundw
        case rel=>exact⟨k+1,by go_num,by rw[ln h1p.out HF0.o HE.o HKP.o],by rw[ln h1p.out HF0.o HE.o HKP.o,iT],ae,aj HX5.o⟩
        case measure=>simp[intOf];omega
       ·have HTK:=aj (Ds c1 hb);have hb2:decide (T.b i0<T.b k)=false:=decide_eq_false hb;clear hb;rw[show fl (T.c k / -T.f k at_) (T.ratio at_ i0)=0 from c2];clear c1 c2;go_wp2_with fail;refine aD [.val (.int .i64 0),.val (.bool false),.val (.bool false),.val (.int .i64 0),.val (.bool true),.val (.bool true),.val (.pointer (some ⟨p,0,none⟩)),.val (.pointer (some ⟨p,0,none⟩)),.val (.pointer (some ⟨p,1,none⟩)),.val (.slice (some ba) P.m bc),.val (.int .i64 (k:Int)),.val (.pointer (some (ba.add k))),.val (.int .i64 (T.b k:Int)),.val (.pointer (some ⟨p,0,none⟩)),.val (.pointer (some ⟨p,0,none⟩)),.val (.pointer (some ⟨p,1,none⟩)),.val (.slice (some ba) P.m bc),.val (.int .i64 (i0:Int)),.val (.pointer (some (ba.add i0))),.val (.int .i64 (T.b i0:Int)),.val (.bool false),.val (.bool false),.val (.bool false)] (fun L g W=>True) (S:=fun _=>False) ag ag ag (Mv.refl HX4.o (fun k h=>h.elim)) ?_ ?_ ?_ ?_ (fun gv_ w5 hm_ he_=>?_)
        ·exact fun _=>trivial
        ·exact fun _ _ _ _ h _=>h
        ·exact fun _ _ _ _ _ _ h=>h
        ·skip
         exact RI 11 (.int .i64 0)<|R1 0<|R1 1<|RI 11 (.int .i64 0)<|R1 3<|R1 4<|RI 0 (.pointer (some ⟨p,0,none⟩))<|R1 6<|R1 7<|J2 (fun hs_=>hs_.val 8) (fun hs_=>(hs_.mv.aF HBp_4.o (fun h=>h)).cell (1) HP0.o.2.1)<|RI 7 (.int .i64 (k:Int))<|R2 9 10<|J2 (fun hs_=>hs_.val 11) (fun hs_=>az hs_.mv.ext (HCb_k.o))<|RI 0 (.pointer (some ⟨p,0,none⟩))<|R1 13<|R1 14<|J2 (fun hs_=>hs_.val 15) (fun hs_=>(hs_.mv.aF HBp_4.o (fun h=>h)).cell (1) HP0.o.2.1)<|RI 5 (.int .i64 (i0:Int))<|R2 16 17<|J2 (fun hs_=>hs_.val 18) (fun hs_=>az hs_.mv.ext (HCb_i0.o))<|R2 12 19<|R2 5 20<|R2 2 21<|aB.nil
        simp only[fT,Ke.value,bD,Act.put,List.setIfInBounds_toArray,List.set_cons_zero,List.set_cons_succ];have HX5:Hid (Ext w w5):=aj hm_.ext;have HBp_5:=aj (hm_.aF HBp_4.o (fun h=>h));clear hm_ he_;go_wp2_with fail;go_roundw
        case rel=>exact⟨k+1,by go_num,by rw[lh h1p.out HF0.o HE.o HTK.o],by rw[lh h1p.out HF0.o HE.o HTK.o,iT];rfl,ae,aj HX5.o⟩
        case measure=>simp[intOf];omega
      ·have HKP:=aj (DK c1);rw[show fl (T.c k / -T.f k at_) (T.ratio at_ i0)=1 from c2];clear c1 c2;go_wp2_with fail;refine aD [.val (.int .i64 1),.val (.bool true),.val (.bool true),.off,.off,.off,.off,.off,.off,.off,.off,.off,.off,.off,.off,.off,.off,.off,.off,.off,.off,.off,.val (.bool true)] (fun L g W=>True) (S:=fun _=>False) ag ag ag (Mv.refl HX4.o (fun k h=>h.elim)) ?_ ?_ ?_ ?_ (fun gv_ w5 hm_ he_=>?_)
       ·exact fun _=>trivial
       ·exact fun _ _ _ _ h _=>h
       ·exact fun _ _ _ _ _ _ h=>h
       ·skip
        exact RI 11 (.int .i64 1)<|R1 0<|R1 1<|RO<|RO<|RO<|RO<|RO<|RO<|RO<|RO<|RO<|RO<|RO<|RO<|RO<|RO<|RO<|RO<|RO<|RO<|RO<|J2 (fun hs_=>hs_.val 2) (fun hs_=>hs_.un 21)<|aB.nil
       simp only[fT,Ke.value,bD,Act.put,List.setIfInBounds_toArray,List.set_cons_zero,List.set_cons_succ];have HX5:Hid (Ext w w5):=aj hm_.ext;have HBp_5:=aj (hm_.aF HBp_4.o (fun h=>h));clear hm_ he_;go_wp2_with fail;go_roundw
       case rel=>exact⟨k+1,by go_num,by rw[ln h1p.out HF0.o HE.o HKP.o],by rw[ln h1p.out HF0.o HE.o HKP.o,iT],ae,aj HX5.o⟩
       case measure=>simp[intOf];omega
    ·have h3:=BV h2;have HSK:Hid (¬ P.n<=T.b k∨0<=T.f k at_):=aj (Or.inr (by grind));clear h2;go_upto_region 6 with fail
     refine ay (fun W=>Ext w W/\ax W (p) (CP) 185/\ax W (w1.heap.size) (#[.string (qs (T.c k)),.slice (some fa) P.n fcap]) 182) ⟨(HX1.o.alloc _),(HBp_1.o.alloc _),(ax.nw (#[.string (qs (T.c k)),.slice (some fa) P.n fcap]) 182)⟩ ?_;rintro w2 ⟨e2,bBp_2,bB0_2⟩;have HX2:=aj e2;have HBp_2:=aj bBp_2;have HB0_2:=aj bB0_2;have HGEB0:Hid (w.heap.size<=w1.heap.size):=aj (HX1.o.size);clear e2 bBp_2 bB0_2 cl_k___2 cl_k___2___1;have cp_1:=HBp_2.o.cell (1) HP0.o.2.1;have cb_k:=az HX2.o (HCb_k.o);go_wp2_with fail;refine(aT (n:=P.n) p (T.b k) true _ (HBp_2.o) HP0.o.1 (by have:=h1p.out;simp;omega)).mono ?_;rintro e _ ⟨rfl,rfl⟩;clear cp_1 cb_k;have c0_1:=HB0_2.o.cell 1 rfl;have cf_at_:=az HX2.o (HCf.o);go_wp2_with fail;refine(di (T.f k at_) _).mono ?_;rintro e _ ⟨rfl,rfl⟩;clear c0_1 cf_at_;go_wp2_with fail;go_roundw
     case rel=>exact⟨k+1,by go_num,by rw[lk HSK.o],by rw[lk HSK.o],ae,aj HX2.o⟩
     case measure=>simp[intOf];omega
   ·have h1p:=aj h1;have HSK:Hid (¬ P.n<=T.b k∨0<=T.f k at_):=aj (Or.inl h1);clear h1;go_upto_region 6 with fail
    refine ay (fun W=>Ext w W/\ax W (p) (CP) 185/\ax W (w1.heap.size) (#[.string (qs (T.c k)),.slice (some fa) P.n fcap]) 182) ⟨(HX1.o.alloc _),(HBp_1.o.alloc _),(ax.nw (#[.string (qs (T.c k)),.slice (some fa) P.n fcap]) 182)⟩ ?_;rintro w2 ⟨e2,bBp_2,bB0_2⟩;have HX2:=aj e2;have HBp_2:=aj bBp_2;have HB0_2:=aj bB0_2;have HGEB0:Hid (w.heap.size<=w1.heap.size):=aj (HX1.o.size);clear e2 bBp_2 bB0_2 cl_k___2 cl_k___2___1;have cp_1:=HBp_2.o.cell (1) HP0.o.2.1;have cb_k:=az HX2.o (HCb_k.o);go_wp2_with fail;refine(aT (n:=P.n) p (T.b k) false _ (HBp_2.o) HP0.o.1 (by have:=h1p.out;simp;omega)).mono ?_;rintro e _ ⟨rfl,rfl⟩;clear cp_1 cb_k;go_wp2_with fail;go_roundw
    case rel=>exact⟨k+1,by go_num,by rw[lk HSK.o],by rw[lk HSK.o],ae,aj HX2.o⟩
    case measure=>simp[intOf];omega
  ·have hk2:k=P.m:=ae;have hge:¬ (k:Int)<((P.m:Nat):Int):=ae;go_wp2;go_ret;exact⟨rfl,HX1.o⟩
def EJ(w:World)(n:Nat)(g:Nat->Value)(t:TypeId)(e:Ending)(w':World):Prop:=∃ (k:Nat) (C:Array Value),e = .returned (.slice (some ⟨k,0,none⟩) n n)/\Ext w w'/\w.heap.size<=k/\ax w' k C t/\∀ j,j<n->C[j]?=some (g j)
def E4(w:World)(n:Nat)(g:Nat->Value)(t:TypeId)(e:Ending)(w':World):Prop:=∃ (k:Nat) (C:Array Value),e = .returned (.agg #[.slice (some ⟨k,0,none⟩) n n])/\Ext w w'/\w.heap.size<=k/\ax w' k C t/\∀ j,j<n->C[j]?=some (g j)
section
variable {P:LP} {T:aO} {k d row at_ q:Nat} {s:Rat} {gl:Nat->Rat} {C:Array Value}
theorem eQ{n d:Nat}{u:Value}{f f':Nat->Value}(h:∀ j,j<n->C[j]?=some (f j))(hu:d<n->f' d=u)(hf:∀ j,j<n->j≠d->f' j=f j)(j:Nat)(hj:j<n):(C.setIfInBounds d u)[j]?=some (f' j):=by
 by_cases e:j=d
 ·subst e;rw[hu hj];exact gI (h j hj)
 ·rw[eR (Ne.symm e) (h j hj),hf j hj e]
theorem At(hb:P.n<=T.b k)(h:∀ j,j<P.n->C[j]?=some (.string (qs (P.pt T k j))))(j:Nat)(hj:j<P.n):C[j]?=some (.string (qs (P.pt T (k+1) j))):=by
 rw[LP.pt,if_neg ae];exact h j hj
theorem Ce(hb:T.b k<P.n)(h:∀ j,j<P.n->C[j]?=some (.string (qs (P.pt T k j)))):∀ j,j<P.n->(C.setIfInBounds (T.b k) (.string (qs (T.c k))))[j]?=some (.string (qs (P.pt T (k+1) j))) :=
 eQ h (fun _=>by rw[LP.pt,if_pos rfl]) (fun j _ hj=>by rw[LP.pt,if_neg (fun e=>hj e.symm)])
theorem A4{m:Nat}(hb:T.o k<P.n)(h:∀ j,j<m->C[j]?=some (.string (qs (P.dl T gl k j))))(j:Nat)(hj:j<m):C[j]?=some (.string (qs (P.dl T gl (k+1) j))):=by
 rw[LP.dl,if_neg ae];exact h j hj
theorem CU{m:Nat}(hd:T.o k=P.n+d)(h:∀ j,j<m->C[j]?=some (.string (qs (P.dl T gl k j)))):∀ j,j<m->(C.setIfInBounds d (.string (qs (gl k))))[j]?=some (.string (qs (P.dl T gl (k+1) j))) :=
 eQ h (fun _=>by rw[LP.dl,if_pos hd]) (fun j _ hj=>by rw[LP.dl,if_neg (fun e=>hj ae)])
theorem uB(hq:1<=q)(h:∀ j,j<P.n->QB q (gl j)):∀ k i,k<=P.n->QB q (P.dl T gl k i)
 | 0,_,_=>Ej.mono hq
 | k+1,i,hk=>by rw[LP.dl];exact kk (h k ae) (uB hq h k i ae)
theorem AG{m:Nat}{f:Nat->Rat}(hk:k<m)(h:∀ j,j<m->C[j]?=some (.string (qs (if j<k then -f j else f j)))):∀ j,j<m->(C.setIfInBounds k (.string (qs (-f k))))[j]?=some (.string (qs (if j<k+1 then -f j else f j))) :=
 eQ h (fun _=>by rw[if_pos (Nat.lt_succ_self k)]) (fun j _ hj=>by
  by_cases h1:j<k
  ·rw[if_pos h1,if_pos ae]
  ·rw[if_neg h1,if_neg ae])
theorem Ao (hd:T.b row=P.n+d) (hk:k=P.m) (h:∀ j,j<P.m->C[j]?=some (.string (qs (if j<k then -P.dl T (T.f row) P.n j else P.dl T (T.f row) P.n j)))) :
    ∀ j,j<P.m->(C.setIfInBounds d (.string ⟨#[49]⟩))[j]?=some (.string (qs (P.ref T row j))) :=
 eQ h (fun _=>by rw[LP.ref,if_pos hd,eS]) (fun j hj hne=>by rw[LP.ref,if_neg (fun e=>hne ae),if_pos ae])
theorem Bg(hb:P.n<=T.o at_)(h:∀ j,j<P.n->C[j]?=some (.string ⟨#[48]⟩))(j:Nat)(hj:j<P.n):C[j]?=some (.string (qs (P.ry T s at_ 0 j))):=by
 rw[LP.ry,if_neg ae,cX];exact h j hj
theorem xE{z:Rat}{bs:ByteArray}(hs:s=z)(hz:qs z=bs)(h:∀ j,j<P.n->C[j]?=some (.string ⟨#[48]⟩)):∀ j,j<P.n->(C.setIfInBounds (T.o at_) (.string bs))[j]?=some (.string (qs (P.ry T s at_ 0 j))) :=
 eQ (f:=fun _ => .string ⟨#[48]⟩) h (fun _=>by rw[LP.ry,if_pos rfl,hs,hz]) (fun j _ hj=>by rw[LP.ry,if_neg (fun e=>hj e.symm),cX])
theorem k6(hb:P.n<=T.b k)(h:∀ j,j<P.n->C[j]?=some (.string (qs (P.ry T s at_ k j))))(j:Nat)(hj:j<P.n):C[j]?=some (.string (qs (P.ry T s at_ (k+1) j))):=by
 rw[LP.ry,if_neg ae];exact h j hj
theorem o8(h:∀ j,j<P.n->C[j]?=some (.string (qs (P.ry T s at_ k j)))):∀ j,j<P.n->(C.setIfInBounds (T.b k) (.string (qs (s*T.f k at_))))[j]?=some (.string (qs (P.ry T s at_ (k+1) j))) :=
 eQ h (fun _=>by rw[LP.ry,if_pos rfl]) (fun j _ hj=>by rw[LP.ry,if_neg (fun e=>hj e.symm)])
end
def r7(x:Rat):Rat:=if 0<x then -1 else 1
theorem xL(s x:Rat){m:Nat}(w:World)(g:Gd w)(hs:s=1)(qb:QB m x)(hm:m<=3000):Calls prog 116 #[.string ⟨#[49]⟩,.string (qs x)] w (aR w (.string (qs (s*x)))):=by
 have h:=gK 1 x w g BE qb ae hm;rw[eS] at h;rw[hs];exact h
theorem tK(s x:Rat){m:Nat}(w:World)(g:Gd w)(hs:s=-1)(qb:QB m x)(hm:m<=3000):Calls prog 116 #[.string ⟨#[45,49]⟩,.string (qs x)] w (aR w (.string (qs (s*x)))):=by
 have h:=gK (-1) x w g BE.neg qb ae hm;rw[jM] at h;rw[hs];exact h
theorem ps(P:LP)(T:aO)(p:Nat)(vb vl vo vw:Value)(vf:Nat->Value)(w:World){q:Nat}(g:Gd w)(hT:TR P T w p vb vl vo vw vf)(hn:P.n<=1000)(hm:P.m<=1000):Calls prog 126 #[.pointer (some ⟨p,0,none⟩)] w (EJ w P.n (fun j => .string (qs (P.pt T P.m j))) 34):=by
 have HG:=aj g;clear g;have HQc:Hid True:=aj trivial;obtain⟨CP,b1,p0⟩:=hT.tab;obtain⟨bo,bc,rfl,zb1,nR,hb⟩:=hT.b;obtain⟨lo_,lc,rfl,zl1,zl2,hl⟩:=hT.l;obtain⟨oo,oc,rfl,zo1,zo2,ho⟩:=hT.o;obtain⟨wo,wcap,rfl,zw1,zw2,hw⟩:=hT.wf;have HF:=aj hT.f;have HTR:=aj hT;have HBp:=aj b1;have HP0:Hid (_/\_/\_/\_/\_/\_):=aj p0;have HRB:=aj hb;have HRL:=aj hl;have HRO:=aj ho;have HRW:=aj hw;clear b1 p0 hb hl ho hw hT zb1 nR zl1 zl2 zo1 zo2 zw1 zw2;go_enter func126,ntmps126;have cp_0:=HBp.o.cell (0) HP0.o.1;go_wp2_with fail;refine(fe P.n ae _).mono ?_;rintro e w1 ⟨kz,CZ,rfl,e1,g_,b_,c_⟩;have HNBpBz:Hid (p≠kz):=aj (Nat.ne_of_lt (Nat.lt_of_lt_of_le HBp.o.lt g_));have HGEBz:Hid (w.heap.size<=kz):=aj (Nat.le_trans (Ext.refl w).size g_);have HX1:Hid (Ext w w1):=aj ((Ext.refl w).trans e1);have HBp_1:=aj (HBp.o.ext e1);clear e1 cp_0;have HBz_1:=aj b_;have HCBz:=aj c_;clear g_ b_ c_;have cp_1:=HBp_1.o.cell (1) HP0.o.2.1;go_wp2_with fail;clear cp_1;go_loopw [16] (fun x0_ wx=>∃ k:Nat,x0_ = .int .i64 k/\k<=P.m/\Hid (Ext w wx/\(∃ CK,ax wx kz CK 34/\∀ j,j<P.n->CK[j]?=some (.string (qs (P.pt T k j)))))) (fun x0_ _=>P.m-(intOf x0_).toNat)
 case atStart=>exact⟨0,rfl,Nat.zero_le _,aj ⟨HX1.o,⟨_,HBz_1.o,fun j hj=>by rw[LP.pt,cX];exact HCBz.o j hj⟩⟩⟩
 case round =>
  rename World=>w2
  obtain⟨k,rfl,hkk,HH⟩:=hrel;have HX2:=aj HH.o.1;have HBp_2:=aj (HBp.o.ext HX2.o);obtain⟨CK,a1_,a2_⟩:=HH.o.2;have HBz_2:=aj a1_;have HCK:=aj a2_;clear a1_ a2_;clear HH;by_cases hlt:k<P.m
  ·have hlt2:(k:Int)<((P.m:Nat):Int):=ae;obtain⟨ba,rfl,zb_⟩:=HRB.o k hlt;have HCb_k:=aj zb_;clear zb_;have cb_k:=az HX2.o (HCb_k.o);by_cases h1:P.n<=T.b k
   ·have h1p:=aj h1;clear h1;go_wp2_with fail;refine(aT (n:=P.n) p (T.b k) true _ (HBp_2.o) HP0.o.1 (by have:=h1p.out;simp;omega)).mono ?_;rintro e _ ⟨rfl,rfl⟩;clear cb_k;go_wp2_with fail;go_roundw
    case rel=>exact⟨k+1,by go_num,ae,aj ⟨HX2.o,⟨_,HBz_2.o,At h1p.out HCK.o⟩⟩⟩
    case measure=>simp[intOf];omega
   ·have h1p:=aj h1;clear h1;have hb2:((T.b k:Nat):Int)<((P.n:Nat):Int):=by have:=h1p.out;omega
    obtain⟨la,rfl,zl_,zm_⟩:=HRL.o k hlt;have HCl_k:=aj zl_;have HCm_k:=aj zm_;clear zl_ zm_;go_wp2_with fail;refine(aT (n:=P.n) p (T.b k) false _ (HBp_2.o) HP0.o.1 (by have:=h1p.out;simp;omega)).mono ?_;rintro e _ ⟨rfl,rfl⟩;clear cb_k;have cp_2:=HBp_2.o.cell (2) HP0.o.2.2.1;have cl_k___2:=az HX2.o (HCl_k.o);have cz_T_b_k:=HBz_2.o.cell (T.b k) (HCK.o (T.b k) (by have:=h1p.out;omega));have fz_T_b_k:=HBz_2.o.free (T.b k);go_wp2_with fail;go_roundw
    case rel=>exact⟨k+1,by go_num,ae,aj ⟨(HX2.o.setCell HGEBz.o _),⟨_,(HBz_2.o.set (T.b k) (.string (qs (T.c k)))),Ce (by have:=h1p.out;omega) HCK.o⟩⟩⟩
    case measure=>simp[intOf];omega
  ·have hk2:k=P.m:=ae;have hge:¬ (k:Int)<((P.m:Nat):Int):=ae;go_wp2;go_ret;exact⟨kz,CK,rfl,HX2.o,HGEBz.o,HBz_2.o,fun j hj=>by rw[← hk2];exact HCK.o j hj⟩
theorem ze(P:LP)(T:aO)(p:Nat)(vb vl vo vw:Value)(vf:Nat->Value)(w:World)(cb:ByteArray)(vg:Value)(gl:Nat->Rat)(g:Gd w)(hT:TR P T w p vb vl vo vw vf)(hg:Rq w vg P.n gl)(hol:∀ j,j<P.n->T.o j<P.n+P.m)(hn:P.n<=1000)(hm:P.m<=1000):Calls prog 128 #[.pointer (some ⟨p,0,none⟩),.agg #[.string cb,vg],.int .i64 (P.m:Int)] w (EJ w P.m (fun j => .string (qs (P.dl T gl P.n j))) 34):=by
 have HG:=aj g;have HOL:=aj hol;clear g hol;have HQc:Hid True:=aj trivial;obtain⟨CP,b1,p0⟩:=hT.tab;obtain⟨bo,bc,rfl,zb1,nR,hb⟩:=hT.b;obtain⟨lo_,lc,rfl,zl1,zl2,hl⟩:=hT.l;obtain⟨oo,oc,rfl,zo1,zo2,ho⟩:=hT.o;obtain⟨wo,wcap,rfl,zw1,zw2,hw⟩:=hT.wf;have HF:=aj hT.f;have HTR:=aj hT;have HBp:=aj b1;have HP0:Hid (_/\_/\_/\_/\_/\_):=aj p0;have HRB:=aj hb;have HRL:=aj hl;have HRO:=aj ho;have HRW:=aj hw;clear b1 p0 hb hl ho hw hT zb1 nR zl1 zl2 zo1 zo2 zw1 zw2;obtain⟨go_,gcap,rfl,zg1,zg2,hgg⟩:=hg;have HRG:=aj hgg;clear zg1 zg2 hgg;go_enter func128,ntmps128;go_wp2_with fail;refine(fe P.m ae _).mono ?_;rintro e w1 ⟨kz,CZ,rfl,e1,g_,b_,c_⟩;have HNBpBz:Hid (p≠kz):=aj (Nat.ne_of_lt (Nat.lt_of_lt_of_le (HBp.o.alloc _).lt g_));have HNB0Bz:Hid (w.heap.size≠kz):=aj (Nat.ne_of_lt (Nat.lt_of_lt_of_le (ax.nw (#[.string cb,.slice go_ P.n gcap]) 182).lt g_));have HGEBz:Hid (w.heap.size<=kz):=aj (Nat.le_trans ((Ext.refl w).alloc _).size g_);have HX1:Hid (Ext w w1):=aj (((Ext.refl w).alloc _).trans e1);have HBp_1:Hid (ax w1 (p) (CP) 185):=aj (((HBp.o.alloc _)).ext e1);have HB0_1:Hid (ax w1 (w.heap.size) (#[.string cb,.slice go_ P.n gcap]) 182):=aj (((ax.nw (#[.string cb,.slice go_ P.n gcap]) 182)).ext e1);have HGEB0:Hid (w.heap.size<=w.heap.size):=aj (Nat.le_refl _);clear e1;have HBz_1:=aj b_;have HCBz:=aj c_;clear g_ b_ c_;have cp_3:=HBp_1.o.cell (3) HP0.o.2.2.2.1;go_wp2_with fail;clear cp_3;go_loopw [17] (fun x0_ wx=>∃ k:Nat,x0_ = .int .i64 k/\k<=P.n/\Hid (Ext w wx/\ax wx (w.heap.size) (#[.string cb,.slice go_ P.n gcap]) 182/\(∃ CK,ax wx kz CK 34/\∀ j,j<P.m->CK[j]?=some (.string (qs (P.dl T gl k j)))))) (fun x0_ _=>P.n-(intOf x0_).toNat)
 case atStart=>exact⟨0,rfl,Nat.zero_le _,aj ⟨HX1.o,HB0_1.o,⟨_,HBz_1.o,fun j hj=>by rw[LP.dl,cX];exact HCBz.o j hj⟩⟩⟩
 case round =>
  rename World=>w2
  obtain⟨k,rfl,hkk,HH⟩:=hrel;have HX2:=aj HH.o.1;have HBp_2:=aj (HBp.o.ext HX2.o);have HB0_2:=aj HH.o.2.1;obtain⟨CK,a1_,a2_⟩:=HH.o.2.2;have HBz_2:=aj a1_;have HCK:=aj a2_;clear a1_ a2_;clear HH;by_cases hlt:k<P.n
  ·have hlt2:(k:Int)<((P.n:Nat):Int):=ae;obtain⟨oa,rfl,zo_⟩:=HRO.o k hlt;have HCo_k:=aj zo_;clear zo_;have co_k:=az HX2.o (HCo_k.o);by_cases h1:P.n<=T.o k
   ·have h1p:=aj h1;clear h1;obtain⟨d,hd⟩:∃ d,T.o k=P.n+d:=⟨T.o k-P.n,by have:=h1p.out;omega⟩
    have hdm:d<P.m:=by have:=HOL.o k hlt;omega
    have hs_:((T.o k:Nat):Int)-((P.n:Nat):Int)=((d:Nat):Int):=ae;have hd2:(d:Int)<((P.m:Nat):Int):=ae;have HD:=aj hd;clear hd;obtain⟨ga,rfl,zg_⟩:=HRG.o k hlt;have HCg:=aj zg_;clear zg_;go_wp2_with fail;refine(aT (n:=P.n) p (T.o k) true _ (HBp_2.o) HP0.o.1 (by have:=h1p.out;simp;omega)).mono ?_;rintro e _ ⟨rfl,rfl⟩;clear co_k;go_wp2_with fail;refine aD [.val (.slice (some ⟨kz,0,none⟩) P.m P.m),.val (.int .i64 (T.o k:Int)),.val (.pointer (some ⟨p,0,none⟩)),.val (.pointer (some ⟨p,0,none⟩)),.val (.pointer (some ⟨p,0,none⟩)),.val (.int .i64 (P.n:Int)),.val (.int .i64 (d:Int)),.val (.pointer (some ⟨w.heap.size,1,none⟩)),.val (.slice (some ga) P.n gcap),.val (.int .i64 (k:Int)),.val (.pointer (some (ga.add k))),.val (.string (qs (gl k))),.val (.pointer (some ⟨kz,d,none⟩)),.aJ] (fun L g W=>(if L 13=true then ax W (kz) ((CK).setIfInBounds d (.string (qs (gl k)))) 34 else ax W (kz) (CK) 34)) (S:=fun k=>k=kz) ag ag ag (Mv.refl HX2.o (fun k h=>(fun e=>Nat.le_trans (show w.heap.size<=kz from HGEBz.o) (Nat.le_of_eq e.symm)) h)) ?_ ?_ ?_ ?_ (fun gv_ w3 hm_ he_=>?_)
    ·exact fun gz_=>(by rw[if_neg af];exact HBz_2.o.drew)
    ·exact fun L g W W1 h e=>aL (h) (fun h=>h.ext e) (fun h=>h.ext e)
    ·intro i v L g W hi h;have n13_:i≠13:=fun e=>by subst e;exact absurd (show false=true from hi) af
     simp only[av n13_,aw n13_];exact h
    ·skip
     refine RI 7 (.slice (some ⟨kz,0,none⟩) P.m P.m)<|RI 9 (.int .i64 (T.o k:Int))<|RI 0 (.pointer (some ⟨p,0,none⟩))<|R1 2<|R1 3<|J2 (fun hs_=>hs_.val 4) (fun hs_=>(hs_.mv.aF HBp_2.o (fun h=>((show p≠kz from HNBpBz.o)) h)).cell (0) HP0.o.1) ?_;refine RV (fun A_ hs_ K_ hK_=>?_) ?_;· have q26_:=hs_.val 1;have q30_:=hs_.val 5;go_simp;try go_bits;exact dS hK_
     refine RI 4 (.pointer (some ⟨w.heap.size,0,none⟩))<|J2 (fun hs_=>hs_.val 7) (fun hs_=>(hs_.mv.aF HB0_2.o (fun h=>((show w.heap.size≠kz from HNB0Bz.o)) h)).cell 1 rfl)<|RI 8 (.int .i64 (k:Int))<|R2 8 9<|J2 (fun hs_=>hs_.val 10) (fun hs_=>az hs_.mv.ext (HCg.o))<|R2 0 6 ?_;refine aB.cons (fun L_ g_ A_ W_ hs_=>?_) ?_
     ·have q37_:=hs_.val 12;have q36_:=hs_.val 11;refine bQ.aJ fun K_ hK_=>?_;have n_:=hs_.not;have e_:=hs_.e;rw[if_neg (by rw[n_];decide)] at e_;have c_0:=e_.cell (d) (HCK.o d hdm);have f_0:=e_.free d;have HE_:=aj e_;have HM_:=aj hs_.mv;have HEE_:=aj hs_.e;clear e_ n_;go_simp;exact hK_.o undef _ (HM_.o.setCell (Or.inl (rfl)) _) (by rw[aE,if_pos rfl];exact(HE_.o.set d _))
     exact aB.nil
    simp only[fT,Ke.value,bD,Act.put,List.setIfInBounds_toArray,List.set_cons_zero,List.set_cons_succ];have HX3:Hid (Ext w w3):=aj hm_.ext;have HBp_3:=aj (hm_.aF HBp_2.o (fun h=>((show p≠kz from HNBpBz.o)) h));have HB0_3:=aj (hm_.aF HB0_2.o (fun h=>((show w.heap.size≠kz from HNB0Bz.o)) h));have HBz_3:Hid (ax w3 (kz) ((CK).setIfInBounds d (.string (qs (gl k)))) 34):=aj (by have h_:=he_;rw[if_pos rfl] at h_;exact h_);clear hm_ he_;go_wp2_with fail;go_roundw
    case rel=>exact⟨k+1,by go_num,ae,aj ⟨HX3.o,HB0_3.o,⟨_,HBz_3.o,CU HD.o HCK.o⟩⟩⟩
    case measure=>simp[intOf];omega
   ·have h1p:=aj h1;clear h1;go_wp2_with fail;refine(aT (n:=P.n) p (T.o k) false _ (HBp_2.o) HP0.o.1 (by have:=h1p.out;simp;omega)).mono ?_;rintro e _ ⟨rfl,rfl⟩;clear co_k;go_wp2_with fail;go_roundw
    case rel=>exact⟨k+1,by go_num,ae,aj ⟨HX2.o,HB0_2.o,⟨_,HBz_2.o,A4 (by have:=h1p.out;omega) HCK.o⟩⟩⟩
    case measure=>simp[intOf];omega
  ·have hk2:k=P.n:=ae;have hge:¬ (k:Int)<((P.n:Nat):Int):=ae;go_wp2;go_ret;exact⟨kz,CK,rfl,HX2.o,HGEBz.o,HBz_2.o,fun j hj=>by rw[← hk2];exact HCK.o j hj⟩
theorem pg(P:LP)(T:aO)(p:Nat)(vb vl vo vw:Value)(vf:Nat->Value)(w:World)(row:Nat){q:Nat}(g:Gd w)(hT:TR P T w p vb vl vo vw vf)(hrow:row<P.m)(hsl:P.n<=T.b row)(hbl:T.b row<P.n+P.m)(hol:∀ j,j<P.n->T.o j<P.n+P.m)(hn:P.n<=1000)(hm:P.m<=1000)(Q:TQ P T q)(hq1:1<=q)(hq2:q<=400):Calls prog 124 #[.pointer (some ⟨p,0,none⟩),.int .i64 (row:Int),.int .i64 (P.m:Int)] w (E4 w P.m (fun j => .string (qs (P.ref T row j))) 34):=by
 have HG:=aj g;have HROW:=aj hrow;have HSL:=aj hsl;have HBL:=aj hbl;have HOL:=aj hol;clear g hrow hsl hbl hol;have HQc:=aj Q.c;have HQf:=aj Q.f;clear Q;obtain⟨CP,b1,p0⟩:=hT.tab;obtain⟨bo,bc,rfl,zb1,nR,hb⟩:=hT.b;obtain⟨lo_,lc,rfl,zl1,zl2,hl⟩:=hT.l;obtain⟨oo,oc,rfl,zo1,zo2,ho⟩:=hT.o;obtain⟨wo,wcap,rfl,zw1,zw2,hw⟩:=hT.wf;have HF:=aj hT.f;have HTR:=aj hT;have HBp:=aj b1;have HP0:Hid (_/\_/\_/\_/\_/\_):=aj p0;have HRB:=aj hb;have HRL:=aj hl;have HRO:=aj ho;have HRW:=aj hw;clear b1 p0 hb hl ho hw hT zb1 nR zl1 zl2 zo1 zo2 zw1 zw2;have hr2:(row:Int)<(P.m:Int):=by have:=HROW.o;omega
 go_enter func124,ntmps124;go_upto_region 1 with fail
 refine ay (fun W=>Ext w W/\ax W (p) (CP) 185/\ax W (w.heap.size) (#[.slice none 0 0]) 36) ⟨((Ext.refl w).alloc _),(HBp.o.alloc _),(ax.nw (#[.slice none 0 0]) 36)⟩ ?_;rintro w1 ⟨e1,bBp_1,bB0_1⟩;have HX1:=aj e1;have HBp_1:=aj bBp_1;have HB0_1:=aj bB0_1;have HGEB0:Hid (w.heap.size<=w.heap.size):=aj (Nat.le_refl _);clear e1 bBp_1 bB0_1;obtain⟨la,rfl,zl_,zm_⟩:=HRL.o row HROW.o;have HCl_row:=aj zl_;have HCm_row:=aj zm_;clear zl_ zm_;have cp_2:=HBp_1.o.cell (2) HP0.o.2.2.1;have cl_row___2:=az HX1.o (HCl_row.o);have cl_row___2___1:=az HX1.o (HCm_row.o);go_wp2_with fail;refine(ze P T p _ _ _ _ _ _ _ (vf row) (T.f row) (HG.o.ext (HX1.o)) (HTR.o.ext HX1.o) ((HF.o row HROW.o).ext HX1.o) HOL.o hn hm).mono ?_;rintro e w2 ⟨kz,CZ,rfl,e2,g_,b_,c_⟩;have HNBpBz:Hid (p≠kz):=aj (Nat.ne_of_lt (Nat.lt_of_lt_of_le HBp_1.o.lt g_));have HNB0Bz:Hid (w.heap.size≠kz):=aj (Nat.ne_of_lt (Nat.lt_of_lt_of_le HB0_1.o.lt g_));have HGEBz:Hid (w.heap.size<=kz):=aj (Nat.le_trans HX1.o.size g_);have HX2:=aj (HX1.o.trans e2);have HBp_2:=aj (HBp_1.o.ext e2);have HB0_2:=aj (HB0_1.o.ext e2);clear e2 cp_2 cl_row___2 cl_row___2___1;have HBz_2:=aj b_;have HCBz:=aj c_;clear g_ b_ c_;go_wp2_with fail;go_loopw [22] (fun x0_ wx=>∃ k:Nat,x0_ = .int .i64 k/\k<=P.m/\Hid (Ext w wx/\ax wx (w.heap.size) (#[.slice none 0 0]) 36/\(∃ CK,ax wx kz CK 34/\∀ j,j<P.m->CK[j]?=some (.string (qs (if j<k then -P.dl T (T.f row) P.n j else P.dl T (T.f row) P.n j)))))) (fun x0_ _=>P.m-(intOf x0_).toNat)
 case atStart=>exact⟨0,rfl,Nat.zero_le _,aj ⟨HX2.o,HB0_2.o,⟨_,HBz_2.o,fun j hj=>by rw[if_neg (Nat.not_lt_zero _)];exact HCBz.o j hj⟩⟩⟩
 case round =>
  rename World=>w3
  obtain⟨k,rfl,hkk,HH⟩:=hrel;have HX3:=aj HH.o.1;have HBp_3:=aj (HBp.o.ext HX3.o);have HB0_3:=aj HH.o.2.1;obtain⟨CK,a1_,a2_⟩:=HH.o.2.2;have HBz_3:=aj a1_;have HCK:=aj a2_;clear a1_ a2_;clear HH;by_cases hlt:k<P.m
  ·have hlt2:(k:Int)<((P.m:Nat):Int):=ae;have zk_:=HCK.o k hlt;rw[if_neg ae] at zk_;have HZk:=aj zk_;clear zk_;have cz_k:=HBz_3.o.cell (k) HZk.o;go_wp2_with fail;refine cto (gJ (P.dl T (T.f row) P.n k) _ (uB hq1 (HQf.o row HROW.o) P.n k (Nat.le_refl _)) ae) fun w4 e4=>?_
   have HX4:=aj (HX3.o.trans e4);have HBp_4:=aj (HBp_3.o.ext e4);have HB0_4:=aj (HB0_3.o.ext e4);have HBz_4:=aj (HBz_3.o.ext e4);clear e4 cz_k;have cz_k:=HBz_4.o.cell (k) HZk.o;have fz_k:=HBz_4.o.free k;go_wp2_with fail;go_roundw
   case rel=>exact⟨k+1,by go_num,ae,aj ⟨(HX4.o.setCell HGEBz.o _),(HB0_4.o.other (a:=⟨kz,k,none⟩) _ (HNB0Bz.o)),⟨_,(HBz_4.o.set k (.string (qs (-P.dl T (T.f row) P.n k)))),AG hlt HCK.o⟩⟩⟩
   case measure=>simp[intOf];omega
  ·have hk2:k=P.m:=ae;have hge:¬ (k:Int)<((P.m:Nat):Int):=ae;obtain⟨d,hd⟩:∃ d,T.b row=P.n+d:=⟨T.b row-P.n,by have:=HSL.o;omega⟩
   have hdm:d<P.m:=by have:=HBL.o;omega
   have hs_:((T.b row:Nat):Int)-((P.n:Nat):Int)=((d:Nat):Int):=ae;have hd2:(d:Int)<((P.m:Nat):Int):=ae;have HD:=aj hd;clear hd;obtain⟨ba,rfl,zb_⟩:=HRB.o row HROW.o;have HCb_row:=aj zb_;clear zb_;go_wp2_with fail;refine aD [.val (.slice (some ⟨kz,0,none⟩) P.m P.m),.val (.pointer (some ⟨p,0,none⟩)),.val (.pointer (some ⟨p,0,none⟩)),.val (.pointer (some ⟨p,1,none⟩)),.val (.slice (some ba) P.m bc),.val (.int .i64 (row:Int)),.val (.pointer (some (ba.add row))),.val (.int .i64 (T.b row:Int)),.val (.pointer (some ⟨p,0,none⟩)),.val (.pointer (some ⟨p,0,none⟩)),.val (.pointer (some ⟨p,0,none⟩)),.val (.int .i64 (P.n:Int)),.val (.int .i64 (d:Int)),.val (.pointer (some ⟨kz,d,none⟩)),.aJ] (fun L g W=>(if L 14=true then ax W (kz) ((CK).setIfInBounds d (.string ⟨#[49]⟩)) 34 else ax W (kz) (CK) 34)) (S:=fun k=>k=kz) ag ag ag (Mv.refl HX3.o (fun k h=>(fun e=>Nat.le_trans (show w.heap.size<=kz from HGEBz.o) (Nat.le_of_eq e.symm)) h)) ?_ ?_ ?_ ?_ (fun gv_ w4 hm_ he_=>?_)
   ·exact fun gz_=>(by rw[if_neg af];exact HBz_3.o.drew)
   ·exact fun L g W W1 h e=>aL (h) (fun h=>h.ext e) (fun h=>h.ext e)
   ·intro i v L g W hi h;have n14_:i≠14:=fun e=>by subst e;exact absurd (show false=true from hi) af
    simp only[av n14_,aw n14_];exact h
   ·skip
    refine RI 7 (.slice (some ⟨kz,0,none⟩) P.m P.m)<|RI 0 (.pointer (some ⟨p,0,none⟩))<|R1 1<|R1 2<|J2 (fun hs_=>hs_.val 3) (fun hs_=>(hs_.mv.aF HBp_3.o (fun h=>((show p≠kz from HNBpBz.o)) h)).cell (1) HP0.o.2.1)<|RI 1 (.int .i64 (row:Int))<|R2 4 5<|J2 (fun hs_=>hs_.val 6) (fun hs_=>az hs_.mv.ext (HCb_row.o))<|RI 0 (.pointer (some ⟨p,0,none⟩))<|R1 8<|R1 9<|J2 (fun hs_=>hs_.val 10) (fun hs_=>(hs_.mv.aF HBp_3.o (fun h=>((show p≠kz from HNBpBz.o)) h)).cell (0) HP0.o.1) ?_;refine RV (fun A_ hs_ K_ hK_=>?_) ?_;· have q40_:=hs_.val 7;have q44_:=hs_.val 11;go_simp;try go_bits;exact dS hK_
    refine R2 0 12 ?_;refine aB.cons (fun L_ g_ A_ W_ hs_=>?_) ?_
    ·have q46_:=hs_.val 13;refine bQ.aJ fun K_ hK_=>?_;have n_:=hs_.not;have e_:=hs_.e;rw[if_neg (by rw[n_];decide)] at e_;have c_0:=e_.cell (d) (HCK.o d hdm);have f_0:=e_.free d;have HE_:=aj e_;have HM_:=aj hs_.mv;have HEE_:=aj hs_.e;clear e_ n_;go_simp;exact hK_.o undef _ (HM_.o.setCell (Or.inl (rfl)) _) (by rw[aE,if_pos rfl];exact(HE_.o.set d _))
    exact aB.nil
   simp only[fT,Ke.value,bD,Act.put,List.setIfInBounds_toArray,List.set_cons_zero,List.set_cons_succ];have HX4:Hid (Ext w w4):=aj hm_.ext;have HBp_4:=aj (hm_.aF HBp_3.o (fun h=>((show p≠kz from HNBpBz.o)) h));have HB0_4:=aj (hm_.aF HB0_3.o (fun h=>((show w.heap.size≠kz from HNB0Bz.o)) h));have HBz_4:Hid (ax w4 (kz) ((CK).setIfInBounds d (.string ⟨#[49]⟩)) 34):=aj (by have h_:=he_;rw[if_pos rfl] at h_;exact h_);clear hm_ he_;have c0_0:=HB0_4.o.cell 0 rfl;have f0_0:=HB0_4.o.free 0;go_wp2_with fail;refine ay (fun W=>Ext w W/\ax W (p) (CP) 185/\ax W (w.heap.size) (#[.slice (some ⟨kz,0,none⟩) P.m P.m]) 36/\ax W (kz) ((CK).setIfInBounds d (.string ⟨#[49]⟩)) 34) ⟨(HX4.o.setCell (HGEB0.o) _),(HBp_4.o.other (a:=⟨w.heap.size,0,none⟩) _ (by have:=HBp.o.lt;first|omega|(simp only[];omega)|(simp;omega))),(HB0_4.o.set 0 (.slice (some ⟨kz,0,none⟩) P.m P.m)),(HBz_4.o.other (a:=⟨w.heap.size,0,none⟩) _ (fun h=>HNB0Bz.o h.symm))⟩ ?_;rintro w5 ⟨e5,bBp_5,bB0_5,bBz_5⟩;have HX5:=aj e5;have HBp_5:=aj bBp_5;have HB0_5:=aj bB0_5;have HBz_5:=aj bBz_5;clear e5 bBp_5 bB0_5 bBz_5 c0_0 f0_0;have gB0_0:=HB0_5.o.cell 0 rfl;refine bodyPost_ret (v:=.agg #[.slice (some ⟨kz,0,none⟩) P.m P.m]) (by simp[results,results124,go_sem,gB0_0]) rfl ⟨kz,_,rfl,HX5.o,HGEBz.o,HBz_5.o,Ao HD.o hk2 HCK.o⟩
theorem Bk(P:LP)(T:aO)(p:Nat)(vb vl vo vw:Value)(vf:Nat->Value)(w:World)(at_:Nat){q:Nat}(g:Gd w)(hT:TR P T w p vb vl vo vw vf)(hat:at_<P.n)(hn:P.n<=1000)(hm:P.m<=1000)(Q:TQ P T q)(hq1:1<=q)(hq2:q<=400):Calls prog 127 #[.pointer (some ⟨p,0,none⟩),.int .i64 (at_:Int)] w (EJ w P.n (fun j => .string (qs (P.ry T (r7 (T.wf at_)) at_ P.m j))) 34):=by
 have HG:=aj g;have HAT:=aj hat;clear g hat;have HQc:=aj Q.c;have HQf:=aj Q.f;have HQw:=aj Q.wf;clear Q;obtain⟨CP,b1,p0⟩:=hT.tab;obtain⟨bo,bc,rfl,zb1,nR,hb⟩:=hT.b;obtain⟨lo_,lc,rfl,zl1,zl2,hl⟩:=hT.l;obtain⟨oo,oc,rfl,zo1,zo2,ho⟩:=hT.o;obtain⟨wo,wcap,rfl,zw1,zw2,hw⟩:=hT.wf;have HF:=aj hT.f;have HTR:=aj hT;have HBp:=aj b1;have HP0:Hid (_/\_/\_/\_/\_/\_):=aj p0;have HRB:=aj hb;have HRL:=aj hl;have HRO:=aj ho;have HRW:=aj hw;clear b1 p0 hb hl ho hw hT zb1 nR zl1 zl2 zo1 zo2 zw1 zw2;have hat2:(at_:Int)<(P.n:Int):=by have:=HAT.o;omega
 go_enter func127,ntmps127;go_upto_region 2 with fail
 obtain⟨wa,rfl,zw_⟩:=HRW.o at_ HAT.o;have HCw:=aj zw_;clear zw_;by_cases h2:0<T.wf at_
 ·have h3:=Ac h2;obtain⟨s,es⟩:∃ s:Rat,s=-1:=⟨_,rfl⟩
  have HS:=aj es;have HSG:Hid (s=r7 (T.wf at_)):=aj (by rw[r7,if_pos h2];exact es);clear es h2;have cp_5:=HBp.o.cell (5) HP0.o.2.2.2.2.2;have cw_at_:=az (Ext.refl w) (HCw.o);go_wp2_with fail;refine(di (T.wf at_) _).mono ?_;rintro e _ ⟨rfl,rfl⟩;clear cp_5 cw_at_;have cp_0:=HBp.o.cell (0) HP0.o.1;go_wp2_with fail;refine(fe P.n ae _).mono ?_;rintro e w1 ⟨kz,CZ,rfl,e1,g_,b_,c_⟩;have HNBpBz:Hid (p≠kz):=aj (Nat.ne_of_lt (Nat.lt_of_lt_of_le HBp.o.lt g_));have HGEBz:Hid (w.heap.size<=kz):=aj (Nat.le_trans (Ext.refl w).size g_);have HX1:Hid (Ext w w1):=aj ((Ext.refl w).trans e1);have HBp_1:=aj (HBp.o.ext e1);clear e1 cp_0;have HBz_1:=aj b_;have HCBz:=aj c_;clear g_ b_ c_;go_upto_region 5 with fail
  obtain⟨oa,rfl,zo_⟩:=HRO.o at_ HAT.o;have HCo_at_:=aj zo_;clear zo_;have cp_3:=HBp_1.o.cell (3) HP0.o.2.2.2.1;have co_at_:=az HX1.o (HCo_at_.o);by_cases h1:P.n<=T.o at_
  ·have h1p:=aj h1;clear h1;have HC1:Hid (∀ j,j<P.n->CZ[j]?=some (.string (qs (P.ry T s at_ 0 j)))):=aj (Bg h1p.out HCBz.o);clear HCBz;go_wp2_with fail;refine(aT (n:=P.n) p (T.o at_) true _ (HBp_1.o) HP0.o.1 (by have:=h1p.out;simp;omega)).mono ?_;rintro e _ ⟨rfl,rfl⟩;clear cp_3 co_at_;have cp_1:=HBp_1.o.cell (1) HP0.o.2.1;go_wp2_with fail;clear cp_1;go_wp2_with fail;go_loopw [45] (fun x0_ wx=>∃ k:Nat,x0_ = .int .i64 k/\k<=P.m/\Hid (Ext w wx/\(∃ CK,ax wx kz CK 34/\∀ j,j<P.n->CK[j]?=some (.string (qs (P.ry T s at_ k j)))))) (fun x0_ _=>P.m-(intOf x0_).toNat)
   case atStart=>exact⟨0,rfl,Nat.zero_le _,aj ⟨HX1.o,⟨_,HBz_1.o,HC1.o⟩⟩⟩
   case round =>
    rename World=>w2
    obtain⟨k,rfl,hkk,HH⟩:=hrel;have HX2:=aj HH.o.1;have HBp_2:=aj (HBp.o.ext HX2.o);obtain⟨CK,a1_,a2_⟩:=HH.o.2;have HBz_2:=aj a1_;have HCK:=aj a2_;clear a1_ a2_;clear HH;by_cases hlt:k<P.m
    ·have hlt2:(k:Int)<((P.m:Nat):Int):=ae;obtain⟨ba,rfl,zb_⟩:=HRB.o k hlt;have HCb_k:=aj zb_;clear zb_;have cb_k:=az HX2.o (HCb_k.o);by_cases h4:P.n<=T.b k
     ·have h4p:=aj h4;clear h4;go_wp2_with fail;refine(aT (n:=P.n) p (T.b k) true _ (HBp_2.o) HP0.o.1 (by have:=h4p.out;simp;omega)).mono ?_;rintro e _ ⟨rfl,rfl⟩;clear cb_k;go_wp2_with fail;go_roundw
      case rel=>exact⟨k+1,by go_num,ae,aj ⟨HX2.o,⟨_,HBz_2.o,k6 h4p.out HCK.o⟩⟩⟩
      case measure=>simp[intOf];omega
     ·have h4p:=aj h4;clear h4;have hb3:((T.b k:Nat):Int)<((P.n:Nat):Int):=by have:=h4p.out;omega
      obtain⟨la,rfl,zl_,zm_⟩:=HRL.o k hlt;have HCl_k:=aj zl_;have HCm_k:=aj zm_;clear zl_ zm_;obtain⟨fo,fcap,ef_,_,_,hf_⟩:=HF.o k hlt;obtain⟨fa,rfl,zf_⟩:=hf_ at_ HAT.o;rw[ef_] at HCm_k;have HCf:=aj zf_;clear zf_ hf_ ef_;go_wp2_with fail;refine(aT (n:=P.n) p (T.b k) false _ (HBp_2.o) HP0.o.1 (by have:=h4p.out;simp;omega)).mono ?_;rintro e _ ⟨rfl,rfl⟩;clear cb_k;have cp_2:=HBp_2.o.cell (2) HP0.o.2.2.1;have cl_k___2___1:=az HX2.o (HCm_k.o);have cf_at_:=az HX2.o (HCf.o);go_wp2_with fail;refine cto (tK s (T.f k at_) _ (HG.o.ext (HX2.o)) HS.o (HQf.o k hlt at_ HAT.o) ae) fun w3 e3=>?_
      have HX3:=aj (HX2.o.trans e3);have HBp_3:=aj (HBp_2.o.ext e3);have HBz_3:=aj (HBz_2.o.ext e3);clear e3 cp_2 cl_k___2___1 cf_at_;have cz_T_b_k:=HBz_3.o.cell (T.b k) (HCK.o (T.b k) (by have:=h4p.out;omega));have fz_T_b_k:=HBz_3.o.free (T.b k);go_wp2_with fail;go_roundw
      case rel=>exact⟨k+1,by go_num,ae,aj ⟨(HX3.o.setCell HGEBz.o _),⟨_,(HBz_3.o.set (T.b k) (.string (qs (s*T.f k at_)))),o8 HCK.o⟩⟩⟩
      case measure=>simp[intOf];omega
    ·have hk2:k=P.m:=ae;have hge:¬ (k:Int)<((P.m:Nat):Int):=ae;go_wp2;go_ret;exact⟨kz,CK,rfl,HX2.o,HGEBz.o,HBz_2.o,fun j hj=>by rw[← hk2,← HSG.o];exact HCK.o j hj⟩
  ·have h1p:=aj h1;clear h1;have hb2:((T.o at_:Nat):Int)<((P.n:Nat):Int):=by have:=h1p.out;omega
   have HC1:Hid (∀ j,j<P.n->(CZ.setIfInBounds (T.o at_) (.string ⟨#[45,49]⟩))[j]?=some (.string (qs (P.ry T s at_ 0 j)))):=aj (xE HS.o jM HCBz.o);go_wp2_with fail;refine(aT (n:=P.n) p (T.o at_) false _ (HBp_1.o) HP0.o.1 (by have:=h1p.out;simp;omega)).mono ?_;rintro e _ ⟨rfl,rfl⟩;clear cp_3 co_at_;have cz_T_o_at_:=HBz_1.o.cell (T.o at_) (HCBz.o (T.o at_) (by have:=h1p.out;omega));have fz_T_o_at_:=HBz_1.o.free (T.o at_);go_upto_region 8 with fail
   refine ay (fun W=>Ext w W/\ax W (p) (CP) 185/\ax W (kz) ((CZ).setIfInBounds (T.o at_) (.string ⟨#[45,49]⟩)) 34) ⟨(HX1.o.setCell HGEBz.o _),(HBp_1.o.other (a:=⟨kz,T.o at_,none⟩) _ (HNBpBz.o)),(HBz_1.o.set (T.o at_) (.string ⟨#[45,49]⟩))⟩ ?_;rintro w2 ⟨e2,bBp_2,bBz_2⟩;have HX2:=aj e2;have HBp_2:=aj bBp_2;have HBz_2:=aj bBz_2;clear e2 bBp_2 bBz_2 cz_T_o_at_ fz_T_o_at_;have cp_1:=HBp_2.o.cell (1) HP0.o.2.1;go_wp2_with fail;clear cp_1;go_wp2_with fail;go_loopw [45] (fun x0_ wx=>∃ k:Nat,x0_ = .int .i64 k/\k<=P.m/\Hid (Ext w wx/\(∃ CK,ax wx kz CK 34/\∀ j,j<P.n->CK[j]?=some (.string (qs (P.ry T s at_ k j)))))) (fun x0_ _=>P.m-(intOf x0_).toNat)
   case atStart=>exact⟨0,rfl,Nat.zero_le _,aj ⟨HX2.o,⟨_,HBz_2.o,HC1.o⟩⟩⟩
   case round =>
    rename World=>w3
    obtain⟨k,rfl,hkk,HH⟩:=hrel;have HX3:=aj HH.o.1;have HBp_3:=aj (HBp.o.ext HX3.o);obtain⟨CK,a1_,a2_⟩:=HH.o.2;have HBz_3:=aj a1_;have HCK:=aj a2_;clear a1_ a2_;clear HH;by_cases hlt:k<P.m
    ·have hlt2:(k:Int)<((P.m:Nat):Int):=ae;obtain⟨ba,rfl,zb_⟩:=HRB.o k hlt;have HCb_k:=aj zb_;clear zb_;have cb_k:=az HX3.o (HCb_k.o);by_cases h4:P.n<=T.b k
     ·have h4p:=aj h4;clear h4;go_wp2_with fail;refine(aT (n:=P.n) p (T.b k) true _ (HBp_3.o) HP0.o.1 (by have:=h4p.out;simp;omega)).mono ?_;rintro e _ ⟨rfl,rfl⟩;clear cb_k;go_wp2_with fail;go_roundw
      case rel=>exact⟨k+1,by go_num,ae,aj ⟨HX3.o,⟨_,HBz_3.o,k6 h4p.out HCK.o⟩⟩⟩
      case measure=>simp[intOf];omega
     ·have h4p:=aj h4;clear h4;have hb3:((T.b k:Nat):Int)<((P.n:Nat):Int):=by have:=h4p.out;omega
      obtain⟨la,rfl,zl_,zm_⟩:=HRL.o k hlt;have HCl_k:=aj zl_;have HCm_k:=aj zm_;clear zl_ zm_;obtain⟨fo,fcap,ef_,_,_,hf_⟩:=HF.o k hlt;obtain⟨fa,rfl,zf_⟩:=hf_ at_ HAT.o;rw[ef_] at HCm_k;have HCf:=aj zf_;clear zf_ hf_ ef_;go_wp2_with fail;refine(aT (n:=P.n) p (T.b k) false _ (HBp_3.o) HP0.o.1 (by have:=h4p.out;simp;omega)).mono ?_;rintro e _ ⟨rfl,rfl⟩;clear cb_k;have cp_2:=HBp_3.o.cell (2) HP0.o.2.2.1;have cl_k___2___1:=az HX3.o (HCm_k.o);have cf_at_:=az HX3.o (HCf.o);go_wp2_with fail;refine cto (tK s (T.f k at_) _ (HG.o.ext (HX3.o)) HS.o (HQf.o k hlt at_ HAT.o) ae) fun w4 e4=>?_
      have HX4:=aj (HX3.o.trans e4);have HBp_4:=aj (HBp_3.o.ext e4);have HBz_4:=aj (HBz_3.o.ext e4);clear e4 cp_2 cl_k___2___1 cf_at_;have cz_T_b_k:=HBz_4.o.cell (T.b k) (HCK.o (T.b k) (by have:=h4p.out;omega));have fz_T_b_k:=HBz_4.o.free (T.b k);go_wp2_with fail;go_roundw
      case rel=>exact⟨k+1,by go_num,ae,aj ⟨(HX4.o.setCell HGEBz.o _),⟨_,(HBz_4.o.set (T.b k) (.string (qs (s*T.f k at_)))),o8 HCK.o⟩⟩⟩
      case measure=>simp[intOf];omega
    ·have hk2:k=P.m:=ae;have hge:¬ (k:Int)<((P.m:Nat):Int):=ae;go_wp2;go_ret;exact⟨kz,CK,rfl,HX3.o,HGEBz.o,HBz_3.o,fun j hj=>by rw[← hk2,← HSG.o];exact HCK.o j hj⟩
 ·have h3:=r8 h2;obtain⟨s,es⟩:∃ s:Rat,s=1:=⟨_,rfl⟩
  have HS:=aj es;have HSG:Hid (s=r7 (T.wf at_)):=aj (by rw[r7,if_neg h2];exact es);clear es h2;have cp_5:=HBp.o.cell (5) HP0.o.2.2.2.2.2;have cw_at_:=az (Ext.refl w) (HCw.o);go_wp2_with fail;refine(di (T.wf at_) _).mono ?_;rintro e _ ⟨rfl,rfl⟩;clear cp_5 cw_at_;have cp_0:=HBp.o.cell (0) HP0.o.1;go_wp2_with fail;refine(fe P.n ae _).mono ?_;rintro e w1 ⟨kz,CZ,rfl,e1,g_,b_,c_⟩;have HNBpBz:Hid (p≠kz):=aj (Nat.ne_of_lt (Nat.lt_of_lt_of_le HBp.o.lt g_));have HGEBz:Hid (w.heap.size<=kz):=aj (Nat.le_trans (Ext.refl w).size g_);have HX1:Hid (Ext w w1):=aj ((Ext.refl w).trans e1);have HBp_1:=aj (HBp.o.ext e1);clear e1 cp_0;have HBz_1:=aj b_;have HCBz:=aj c_;clear g_ b_ c_;go_upto_region 5 with fail
  obtain⟨oa,rfl,zo_⟩:=HRO.o at_ HAT.o;have HCo_at_:=aj zo_;clear zo_;have cp_3:=HBp_1.o.cell (3) HP0.o.2.2.2.1;have co_at_:=az HX1.o (HCo_at_.o);by_cases h1:P.n<=T.o at_
  ·have h1p:=aj h1;clear h1;have HC1:Hid (∀ j,j<P.n->CZ[j]?=some (.string (qs (P.ry T s at_ 0 j)))):=aj (Bg h1p.out HCBz.o);clear HCBz;go_wp2_with fail;refine(aT (n:=P.n) p (T.o at_) true _ (HBp_1.o) HP0.o.1 (by have:=h1p.out;simp;omega)).mono ?_;rintro e _ ⟨rfl,rfl⟩;clear cp_3 co_at_;have cp_1:=HBp_1.o.cell (1) HP0.o.2.1;go_wp2_with fail;clear cp_1;go_wp2_with fail;go_loopw [45] (fun x0_ wx=>∃ k:Nat,x0_ = .int .i64 k/\k<=P.m/\Hid (Ext w wx/\(∃ CK,ax wx kz CK 34/\∀ j,j<P.n->CK[j]?=some (.string (qs (P.ry T s at_ k j)))))) (fun x0_ _=>P.m-(intOf x0_).toNat)
   case atStart=>exact⟨0,rfl,Nat.zero_le _,aj ⟨HX1.o,⟨_,HBz_1.o,HC1.o⟩⟩⟩
   case round =>
    rename World=>w2
    obtain⟨k,rfl,hkk,HH⟩:=hrel;have HX2:=aj HH.o.1;have HBp_2:=aj (HBp.o.ext HX2.o);obtain⟨CK,a1_,a2_⟩:=HH.o.2;have HBz_2:=aj a1_;have HCK:=aj a2_;clear a1_ a2_;clear HH;by_cases hlt:k<P.m
    ·have hlt2:(k:Int)<((P.m:Nat):Int):=ae;obtain⟨ba,rfl,zb_⟩:=HRB.o k hlt;have HCb_k:=aj zb_;clear zb_;have cb_k:=az HX2.o (HCb_k.o);by_cases h4:P.n<=T.b k
     ·have h4p:=aj h4;clear h4;go_wp2_with fail;refine(aT (n:=P.n) p (T.b k) true _ (HBp_2.o) HP0.o.1 (by have:=h4p.out;simp;omega)).mono ?_;rintro e _ ⟨rfl,rfl⟩;clear cb_k;go_wp2_with fail;go_roundw
      case rel=>exact⟨k+1,by go_num,ae,aj ⟨HX2.o,⟨_,HBz_2.o,k6 h4p.out HCK.o⟩⟩⟩
      case measure=>simp[intOf];omega
     ·have h4p:=aj h4;clear h4;have hb3:((T.b k:Nat):Int)<((P.n:Nat):Int):=by have:=h4p.out;omega
      obtain⟨la,rfl,zl_,zm_⟩:=HRL.o k hlt;have HCl_k:=aj zl_;have HCm_k:=aj zm_;clear zl_ zm_;obtain⟨fo,fcap,ef_,_,_,hf_⟩:=HF.o k hlt;obtain⟨fa,rfl,zf_⟩:=hf_ at_ HAT.o;rw[ef_] at HCm_k;have HCf:=aj zf_;clear zf_ hf_ ef_;go_wp2_with fail;refine(aT (n:=P.n) p (T.b k) false _ (HBp_2.o) HP0.o.1 (by have:=h4p.out;simp;omega)).mono ?_;rintro e _ ⟨rfl,rfl⟩;clear cb_k;have cp_2:=HBp_2.o.cell (2) HP0.o.2.2.1;have cl_k___2___1:=az HX2.o (HCm_k.o);have cf_at_:=az HX2.o (HCf.o);go_wp2_with fail;refine cto (xL s (T.f k at_) _ (HG.o.ext (HX2.o)) HS.o (HQf.o k hlt at_ HAT.o) ae) fun w3 e3=>?_
      have HX3:=aj (HX2.o.trans e3);have HBp_3:=aj (HBp_2.o.ext e3);have HBz_3:=aj (HBz_2.o.ext e3);clear e3 cp_2 cl_k___2___1 cf_at_;have cz_T_b_k:=HBz_3.o.cell (T.b k) (HCK.o (T.b k) (by have:=h4p.out;omega));have fz_T_b_k:=HBz_3.o.free (T.b k);go_wp2_with fail;go_roundw
      case rel=>exact⟨k+1,by go_num,ae,aj ⟨(HX3.o.setCell HGEBz.o _),⟨_,(HBz_3.o.set (T.b k) (.string (qs (s*T.f k at_)))),o8 HCK.o⟩⟩⟩
      case measure=>simp[intOf];omega
    ·have hk2:k=P.m:=ae;have hge:¬ (k:Int)<((P.m:Nat):Int):=ae;go_wp2;go_ret;exact⟨kz,CK,rfl,HX2.o,HGEBz.o,HBz_2.o,fun j hj=>by rw[← hk2,← HSG.o];exact HCK.o j hj⟩
  ·have h1p:=aj h1;clear h1;have hb2:((T.o at_:Nat):Int)<((P.n:Nat):Int):=by have:=h1p.out;omega
   have HC1:Hid (∀ j,j<P.n->(CZ.setIfInBounds (T.o at_) (.string ⟨#[49]⟩))[j]?=some (.string (qs (P.ry T s at_ 0 j)))):=aj (xE HS.o eS HCBz.o);go_wp2_with fail;refine(aT (n:=P.n) p (T.o at_) false _ (HBp_1.o) HP0.o.1 (by have:=h1p.out;simp;omega)).mono ?_;rintro e _ ⟨rfl,rfl⟩;clear cp_3 co_at_;have cz_T_o_at_:=HBz_1.o.cell (T.o at_) (HCBz.o (T.o at_) (by have:=h1p.out;omega));have fz_T_o_at_:=HBz_1.o.free (T.o at_);go_upto_region 8 with fail
   refine ay (fun W=>Ext w W/\ax W (p) (CP) 185/\ax W (kz) ((CZ).setIfInBounds (T.o at_) (.string ⟨#[49]⟩)) 34) ⟨(HX1.o.setCell HGEBz.o _),(HBp_1.o.other (a:=⟨kz,T.o at_,none⟩) _ (HNBpBz.o)),(HBz_1.o.set (T.o at_) (.string ⟨#[49]⟩))⟩ ?_;rintro w2 ⟨e2,bBp_2,bBz_2⟩;have HX2:=aj e2;have HBp_2:=aj bBp_2;have HBz_2:=aj bBz_2;clear e2 bBp_2 bBz_2 cz_T_o_at_ fz_T_o_at_;have cp_1:=HBp_2.o.cell (1) HP0.o.2.1;go_wp2_with fail;clear cp_1;go_wp2_with fail;go_loopw [45] (fun x0_ wx=>∃ k:Nat,x0_ = .int .i64 k/\k<=P.m/\Hid (Ext w wx/\(∃ CK,ax wx kz CK 34/\∀ j,j<P.n->CK[j]?=some (.string (qs (P.ry T s at_ k j)))))) (fun x0_ _=>P.m-(intOf x0_).toNat)
   case atStart=>exact⟨0,rfl,Nat.zero_le _,aj ⟨HX2.o,⟨_,HBz_2.o,HC1.o⟩⟩⟩
   case round =>
    rename World=>w3
    obtain⟨k,rfl,hkk,HH⟩:=hrel;have HX3:=aj HH.o.1;have HBp_3:=aj (HBp.o.ext HX3.o);obtain⟨CK,a1_,a2_⟩:=HH.o.2;have HBz_3:=aj a1_;have HCK:=aj a2_;clear a1_ a2_;clear HH;by_cases hlt:k<P.m
    ·have hlt2:(k:Int)<((P.m:Nat):Int):=ae;obtain⟨ba,rfl,zb_⟩:=HRB.o k hlt;have HCb_k:=aj zb_;clear zb_;have cb_k:=az HX3.o (HCb_k.o);by_cases h4:P.n<=T.b k
     ·have h4p:=aj h4;clear h4;go_wp2_with fail;refine(aT (n:=P.n) p (T.b k) true _ (HBp_3.o) HP0.o.1 (by have:=h4p.out;simp;omega)).mono ?_;rintro e _ ⟨rfl,rfl⟩;clear cb_k;go_wp2_with fail;go_roundw
      case rel=>exact⟨k+1,by go_num,ae,aj ⟨HX3.o,⟨_,HBz_3.o,k6 h4p.out HCK.o⟩⟩⟩
      case measure=>simp[intOf];omega
     ·have h4p:=aj h4;clear h4;have hb3:((T.b k:Nat):Int)<((P.n:Nat):Int):=by have:=h4p.out;omega
      obtain⟨la,rfl,zl_,zm_⟩:=HRL.o k hlt;have HCl_k:=aj zl_;have HCm_k:=aj zm_;clear zl_ zm_;obtain⟨fo,fcap,ef_,_,_,hf_⟩:=HF.o k hlt;obtain⟨fa,rfl,zf_⟩:=hf_ at_ HAT.o;rw[ef_] at HCm_k;have HCf:=aj zf_;clear zf_ hf_ ef_;go_wp2_with fail;refine(aT (n:=P.n) p (T.b k) false _ (HBp_3.o) HP0.o.1 (by have:=h4p.out;simp;omega)).mono ?_;rintro e _ ⟨rfl,rfl⟩;clear cb_k;have cp_2:=HBp_3.o.cell (2) HP0.o.2.2.1;have cl_k___2___1:=az HX3.o (HCm_k.o);have cf_at_:=az HX3.o (HCf.o);go_wp2_with fail;refine cto (xL s (T.f k at_) _ (HG.o.ext (HX3.o)) HS.o (HQf.o k hlt at_ HAT.o) ae) fun w4 e4=>?_
      have HX4:=aj (HX3.o.trans e4);have HBp_4:=aj (HBp_3.o.ext e4);have HBz_4:=aj (HBz_3.o.ext e4);clear e4 cp_2 cl_k___2___1 cf_at_;have cz_T_b_k:=HBz_4.o.cell (T.b k) (HCK.o (T.b k) (by have:=h4p.out;omega));have fz_T_b_k:=HBz_4.o.free (T.b k);go_wp2_with fail;go_roundw
      case rel=>exact⟨k+1,by go_num,ae,aj ⟨(HX4.o.setCell HGEBz.o _),⟨_,(HBz_4.o.set (T.b k) (.string (qs (s*T.f k at_)))),o8 HCK.o⟩⟩⟩
      case measure=>simp[intOf];omega
    ·have hk2:k=P.m:=ae;have hge:¬ (k:Int)<((P.m:Nat):Int):=ae;go_wp2;go_ret;exact⟨kz,CK,rfl,HX3.o,HGEBz.o,HBz_3.o,fun j hj=>by rw[← hk2,← HSG.o];exact HCK.o j hj⟩
theorem zv{a b:Value}:#[a] ++ #[b]=#[a,b]:=rfl
theorem EE{a b c:Value}:#[a] ++ #[b,c]=#[a,b,c]:=rfl
theorem TM.mm{M:TM}{row kz n p m b H:Nat}(h:∀ k,M.S p m k->k≠b)(hb:b<H)(hk:H<=kz):∀ k,(M.mn row kz n).S p m k->k≠b:=fun k hs=>(TM.yd hs).elim (h k) (fun e=>ae)
theorem eY.DQ{P:LP}{T:aO}(h:eY P T):Good P T:=⟨h.inv,h.fz⟩
theorem xI(P:LP)(T:aO):P.jj T=-1∨∃ r:Nat,P.jj T=(r:Int)/\r<P.m/\P.n<=T.b r/\T.c r<0:=by
 rcases ki P T with⟨h1,_⟩|⟨r,h1,h2,h3,h4,_⟩
 ·exact Or.inl h1
 ·exact Or.inr ⟨r,h2,h1,h3,h4⟩
theorem Ba(P:LP)(T:aO)(r:Nat):P.wK T r=-1∨∃ a:Nat,P.wK T r=(a:Int)/\a<P.n/\T.f r a≠0:=by
 rcases nx P T r with⟨h1,_⟩|⟨a,h1,h2,_,h4,_⟩
 ·exact Or.inl h1
 ·exact Or.inr ⟨a,h2,h1,fun e=>by rw[e] at h4;exact absurd h4 af⟩
theorem BK(P:LP)(T:aO):(∃ a:Nat,P.Dh T=(a:Int)/\a<P.n/\T.o a<P.n/\T.wf a≠0)∨P.Dh T=-1:=by
 rcases rM P T with⟨h1,_⟩|⟨r,h1,h2,h3,h4⟩
 ·exact Or.inr h1
 ·exact Or.inl ⟨r,h2,h1,h3,h4⟩
theorem Cq(P:LP)(T:aO):P.tj T=-1∨∃ a:Nat,P.tj T=(a:Int)/\a<P.n/\P.n<=T.o a/\T.wf a<0:=by
 rcases nw P T with⟨h1,_⟩|⟨r,h1,h2,h3,h4,_⟩
 ·exact Or.inl h1
 ·exact Or.inr ⟨r,h2,h1,h3,h4⟩
theorem yy(P:LP)(T:aO)(a:Nat):P.lv T a P.m=-1∨∃ r:Nat,P.lv T a P.m=(r:Int)/\r<P.m/\T.f r a≠0:=by
 rcases lj P T a P.m with⟨h1,_⟩|⟨r,h1,h2,_,h3,_⟩
 ·exact Or.inl h1
 ·exact Or.inr ⟨r,h2,h1,fun e=>by rw[e] at h3;exact absurd h3 af⟩
def Ee(X:World)(P:LP)(p:Nat)(e:Ending)(w':World):Prop:=∃ (T:aO) (M:TM),TA X P T p M w'/\Good P T/\Ext X w' /\
 ((e = .returned (.tuple #[.int .i64 0,.bool true])/\Pos P T)∨∃ r:Nat,e = .returned (.tuple #[.int .i64 (r:Int),.bool false])/\EV P T r)
def EK(X:World)(P:LP)(p:Nat)(e:Ending)(w':World):Prop:=∃ (T:aO) (M:TM),TA X P T p M w'/\Good P T/\Ext X w' /\
 ((∃ a:Nat,e = .returned (.tuple #[.int .i64 (a:Int),.bool false])/\Pos P T/\a<P.n/\T.o a<P.n/\T.wf a≠0) ∨
  (e = .returned (.tuple #[.int .i64 0,.bool true])/\eY P T/\∀ j,j<P.n->P.n<=T.o j->0<=T.wf j) ∨
  (∃ a:Nat,e = .returned (.tuple #[.int .i64 (a:Int),.bool false])/\eY P T/\a<P.n/\P.n<=T.o a/\T.wf a<0/\∀ i,i<P.m->P.n<=T.b i->0<=T.f i a))
section
variable {P:LP} {T:aO} {p xb:Nat} {M:TM} {w X:World} {tx:TypeId} {v:Int}
theorem mO (g:Gd w) (h:TA X P T p M w) (hv:P.jj T=v) (bx:ax w xb #[.pointer (some ⟨p,0,none⟩)] tx) (hm:P.m<=1000) :
    Calls prog 201 #[M.vb P,.func (.func 202) #[] #[.pointer (some ⟨xb,0,none⟩)]] w (aR w (.int .i64 v)):=by
 obtain⟨ao,cap,e,_,_,hh⟩:=h.tr.b;rw[e,← hv];exact lq _ _ _ _ _ w ao cap hh (fun W e k hk=>by rw[zv];exact DZ P T p _ _ _ _ _ W xb k _ tx _ (g.ext e) (h.tr.ext e) (bx.ext e) rfl hk rfl) ae (fun _ _=>ag)
theorem mN {yb row:Nat} {ty:TypeId} (g:Gd w) (h:TA X P T p M w) (hv:P.wK T row=v) (bx:ax w xb #[.pointer (some ⟨p,0,none⟩)] tx) (by_:ax w yb #[.int .i64 (row:Int)] ty) (hr:row<P.m) (hm:P.n<=1000) :
    Calls prog 201 #[M.vo P,.func (.func 203) #[] #[.pointer (some ⟨xb,0,none⟩),.pointer (some ⟨yb,0,none⟩)]] w (aR w (.int .i64 v)):=by
 obtain⟨ao,cap,e,_,_,hh⟩:=h.tr.o;rw[e,← hv];exact lq _ _ _ _ _ w ao cap hh (fun W e k hk=>by rw[EE];exact DY P T p _ _ _ _ _ W xb k _ tx yb row _ ty _ (g.ext e) (h.tr.ext e) (bx.ext e) rfl (by_.ext e) rfl hr hk rfl) ae (fun _ _=>ag)
theorem mM (g:Gd w) (h:TA X P T p M w) (hv:P.Dh T=v) (bx:ax w xb #[.pointer (some ⟨p,0,none⟩)] tx) (hm:P.n<=1000) :
    Calls prog 201 #[M.vo P,.func (.func 204) #[] #[.pointer (some ⟨xb,0,none⟩)]] w (aR w (.int .i64 v)):=by
 obtain⟨ao,cap,e,_,_,hh⟩:=h.tr.o;rw[e,← hv];exact lq _ _ _ _ _ w ao cap hh (fun W e k hk=>by rw[zv];exact DX P T p _ _ _ _ _ W xb k _ tx _ (g.ext e) (h.tr.ext e) (bx.ext e) rfl hk rfl) ae (fun _ _=>ag)
theorem mL (g:Gd w) (h:TA X P T p M w) (hv:P.tj T=v) (bx:ax w xb #[.pointer (some ⟨p,0,none⟩)] tx) (hm:P.n<=1000) :
    Calls prog 201 #[M.vo P,.func (.func 205) #[] #[.pointer (some ⟨xb,0,none⟩)]] w (aR w (.int .i64 v)):=by
 obtain⟨ao,cap,e,_,_,hh⟩:=h.tr.o;rw[e,← hv];exact lq _ _ _ _ _ w ao cap hh (fun W e k hk=>by rw[zv];exact DW P T p _ _ _ _ _ W xb k _ tx _ (g.ext e) (h.tr.ext e) (bx.ext e) rfl hk rfl) ae (fun _ _=>ag)
theorem o4(h:TA X P T p M w)(v:Nat)(r:Bool)(hr:decide (P.n<=v)=r):Calls prog 198 #[.pointer (some ⟨p,0,none⟩),.int .i64 (v:Int)] w fun e w'=>e = .returned (.bool r)/\w=w' :=
 let ⟨_,a,b⟩:=h.mem.tab;aT p v r w a b.1 hr
theorem uf {q at_:Nat} (g:Gd w) (h:TA X P T p M w) (hv:P.lv T at_ P.m=v) (hat:at_<P.n) (hm:P.m<=1000) (Q:TQ P T q) (hq1:1<=q) (hq2:q<=400) :
    Calls prog 206 #[.pointer (some ⟨p,0,none⟩),.int .i64 (at_:Int)] w (aR w (.int .i64 v)):=by
 rw[← hv];exact AN P T p _ _ _ _ _ w at_ g h.tr hat hm Q hq1 hq2
end
theorem s6(P:LP)(T:aO)(p:Nat)(M:TM)(q:Nat)(X w:World)(g:Gd X)(hX:Ext X w)(hT:TA X P T p M w)(SZ:zP P q)(hn:P.n<=1000)(hm:P.m<=1000)(hq1:1<=q)(hq2:q<=400)(hG:Good P T):Calls prog 123 #[.pointer (some ⟨p,0,none⟩)] w (Ee X P p):=by
 have HG:=aj g;have HBT:=aj hT;have HG0:=aj hG;clear g hT hG;have HX0:Hid (Mv X w (fun k=>X.heap.size<=k) w):=aj (Mv.refl hX (fun k h=>h));clear hX;obtain⟨N,hN⟩:=wh HG0.o;have HN:=aj hN;clear hN;go_enter func123,ntmps123;go_wp2_with fail;have HNEBTB0:Hid (∀ q_,M.S p P.m q_->q_≠w.heap.size):=aj (HBT.o.ne ah);have HNEBTB1:Hid (∀ q_,M.S p P.m q_->q_≠w.heap.size+1):=aj (HBT.o.ne ah);refine ay (fun W=>Mv X w (fun k=>X.heap.size<=k) W/\TA X P T p M W/\ax W (w.heap.size) (#[.pointer (some ⟨p,0,none⟩)]) 175/\ax W (w.heap.size+1) (#[.int .i64 0]) 3) ⟨((HX0.o.alloc _).alloc _),((HBT.o.alloc _).alloc _),((ax.nw (#[.pointer (some ⟨p,0,none⟩)]) 175).alloc _),(ax.nw (#[.int .i64 0]) 3)⟩ ?_;rintro w1 ⟨e1,bBT_1,bB0_1,bB1_1⟩;have HX1:=aj e1;have HBT_1:=aj bBT_1;have HB0_1:=aj bB0_1;have HB1_1:=aj bB1_1;have HGEB0:Hid (w.heap.size<=w.heap.size):=aj (Nat.le_refl _);have HGEB1:Hid (w.heap.size<=w.heap.size+1):=aj ae;clear e1 bBT_1 bB0_1 bB1_1;go_loopg [3] N (fun gk x0_ wx=>x0_ = .bool false/\∃ (k:Nat) (M1:TM) (r_:Value),N<=k+gk/\Hid (Mv X w (fun k=>X.heap.size<=k) wx/\ax wx (w.heap.size) #[.pointer (some ⟨p,0,none⟩)] 175/\ax wx (w.heap.size+1) #[r_] 3/\TA X P (mU P.fJ k T) p M1 wx/\(∀ q,M1.S p P.m q->q≠w.heap.size/\q≠w.heap.size+1)))
 case atStart=>exact⟨rfl,0,M,_,ae,aj ⟨HX1.o,HB0_1.o,HB1_1.o,HBT_1.o,fun q hq=>⟨(HNEBTB0.o) q hq,(HNEBTB1.o) q hq⟩⟩⟩
 case round =>
  rename World=>w2
  obtain⟨rfl,k,M1,r_,hkN,HH⟩:=hrel;obtain⟨T1,eT⟩:∃ T1,mU P.fJ k T=T1:=⟨_,rfl⟩
  rw[eT] at HH;have HT1:=aj eT;clear eT;have HX2:=aj HH.o.1;have HB0_2:=aj HH.o.2.1;have HB1_2:=aj HH.o.2.2.1;have HBT_2:=aj HH.o.2.2.2.1;have HNE2B0:Hid (∀ q,M1.S p P.m q->q≠w.heap.size):=aj (fun q hq=>(HH.o.2.2.2.2 q hq).1);have HNE2B1:Hid (∀ q,M1.S p P.m q->q≠w.heap.size+1):=aj (fun q hq=>(HH.o.2.2.2.2 q hq).2);clear HH;have HGD:=aj (HT1.o▸HG0.o.EA k:Good P T1);have HTQ:=aj (SZ T1 HGD.o.inv);rcases xI P T1 with e1|⟨r,e1,hr,hb,hc⟩
  ·have HP:=aj (xJ (by omega:P.jj T1<0));have HE:=aj e1;clear e1;have c0_0:=HB0_2.o.cell 0 rfl;have cT_1:=HBT_2.o.c1;go_wp2_with fail;refine cto (mO (HG.o.ext (HX2.o.ext)) (HBT_2.o) HE.o (HB0_2.o) hm) fun w3 e3=>?_
   have HX3:=aj (HX2.o.trans e3);have HBT_3:=aj (HBT_2.o.ext e3);have HB0_3:=aj (HB0_2.o.ext e3);have HB1_3:=aj (HB1_2.o.ext e3);clear e3 c0_0 cT_1;have c1_0:=HB1_3.o.cell 0 rfl;have f1_0:=HB1_3.o.free 0;go_upto_region 2 with fail
   refine ay (fun W=>Mv X w (fun k=>X.heap.size<=k) W/\TA X P T1 p M1 W/\ax W (w.heap.size) (#[.pointer (some ⟨p,0,none⟩)]) 175/\ax W (w.heap.size+1) (#[.int .i64 (-1)]) 3) ⟨(HX3.o.setCell (Or.inr (HGEB1.o)) _),(HBT_3.o.other (a:=⟨w.heap.size+1,0,none⟩) _ (HNE2B1.o)),(HB0_3.o.other (a:=⟨w.heap.size+1,0,none⟩) _ ah),(HB1_3.o.set 0 (.int .i64 (-1)))⟩ ?_;rintro w4 ⟨e4,bBT_4,bB0_4,bB1_4⟩;have HX4:=aj e4;have HBT_4:=aj bBT_4;have HB0_4:=aj bB0_4;have HB1_4:=aj bB1_4;clear e4 bBT_4 bB0_4 bB1_4 c1_0 f1_0;have c1_0:=HB1_4.o.cell 0 rfl;have f1_0:=HB1_4.o.free 0;go_wp2_with fail;refine ay (fun W=>Mv X w (fun k=>X.heap.size<=k) W/\TA X P T1 p M1 W/\ax W (w.heap.size) (#[.pointer (some ⟨p,0,none⟩)]) 175/\ax W (w.heap.size+1) (#[.int .i64 0]) 3) ⟨(HX4.o.setCell (Or.inr (HGEB1.o)) _),(HBT_4.o.other (a:=⟨w.heap.size+1,0,none⟩) _ (HNE2B1.o)),(HB0_4.o.other (a:=⟨w.heap.size+1,0,none⟩) _ ah),(HB1_4.o.set 0 (.int .i64 0))⟩ ?_;rintro w5 ⟨e5,bBT_5,bB0_5,bB1_5⟩;have HX5:=aj e5;have HBT_5:=aj bBT_5;have HB0_5:=aj bB0_5;have HB1_5:=aj bB1_5;clear e5 bBT_5 bB0_5 bB1_5 c1_0 f1_0;have gB1_0:=HB1_5.o.cell 0 rfl;refine bodyPost_ret (v:=.tuple #[.int .i64 0,.bool true]) (by simp[results,results123,go_sem,gB1_0]) rfl ⟨T1,M1,HBT_5.o,HGD.o,HX5.o.ext,Or.inl ⟨rfl,HP.o⟩⟩
  ·have HE:=aj e1;clear e1;have HR:=aj hr;have HB:=aj hb;have HC:=aj hc;clear hr hb hc;have hr0:¬ (r:Int)<0:=ae;have c0_0:=HB0_2.o.cell 0 rfl;have cT_1:=HBT_2.o.c1;go_wp2_with fail;refine cto (mO (HG.o.ext (HX2.o.ext)) (HBT_2.o) HE.o (HB0_2.o) hm) fun w3 e3=>?_
   have HX3:=aj (HX2.o.trans e3);have HBT_3:=aj (HBT_2.o.ext e3);have HB0_3:=aj (HB0_2.o.ext e3);have HB1_3:=aj (HB1_2.o.ext e3);clear e3 c0_0 cT_1;have c1_0:=HB1_3.o.cell 0 rfl;have f1_0:=HB1_3.o.free 0;go_upto_region 2 with fail
   refine ay (fun W=>Mv X w (fun k=>X.heap.size<=k) W/\TA X P T1 p M1 W/\ax W (w.heap.size) (#[.pointer (some ⟨p,0,none⟩)]) 175/\ax W (w.heap.size+1) (#[.int .i64 (r:Int)]) 3) ⟨(HX3.o.setCell (Or.inr (HGEB1.o)) _),(HBT_3.o.other (a:=⟨w.heap.size+1,0,none⟩) _ (HNE2B1.o)),(HB0_3.o.other (a:=⟨w.heap.size+1,0,none⟩) _ ah),(HB1_3.o.set 0 (.int .i64 (r:Int)))⟩ ?_;rintro w4 ⟨e4,bBT_4,bB0_4,bB1_4⟩;have HX4:=aj e4;have HBT_4:=aj bBT_4;have HB0_4:=aj bB0_4;have HB1_4:=aj bB1_4;clear e4 bBT_4 bB0_4 bB1_4 c1_0 f1_0;have c1_0:=HB1_4.o.cell 0 rfl;go_upto_region 4 with fail
   clear c1_0;rcases Ba P T1 r with e2|⟨a,e2,ha,hf⟩
   ·have HBAD:=aj (Bd HR.o HB.o HC.o (by omega:P.wK T1 r<0));have HE2:=aj e2;clear e2;have c0_0:=HB0_4.o.cell 0 rfl;have cT_3:=HBT_4.o.c3;go_wp2_with fail;refine cto (mN (HG.o.ext (HX4.o.ext)) (HBT_4.o) HE2.o (HB0_4.o) (HB1_4.o) HR.o hn) fun w5 e5=>?_
    have HX5:=aj (HX4.o.trans e5);have HBT_5:=aj (HBT_4.o.ext e5);have HB0_5:=aj (HB0_4.o.ext e5);have HB1_5:=aj (HB1_4.o.ext e5);clear e5 c0_0 cT_3;have c1_0:=HB1_5.o.cell 0 rfl;have f1_0:=HB1_5.o.free 0;go_wp2_with fail;refine ay (fun W=>Mv X w (fun k=>X.heap.size<=k) W/\TA X P T1 p M1 W/\ax W (w.heap.size) (#[.pointer (some ⟨p,0,none⟩)]) 175/\ax W (w.heap.size+1) (#[.int .i64 (r:Int)]) 3) ⟨(HX5.o.setCell (Or.inr (HGEB1.o)) _),(HBT_5.o.other (a:=⟨w.heap.size+1,0,none⟩) _ (HNE2B1.o)),(HB0_5.o.other (a:=⟨w.heap.size+1,0,none⟩) _ ah),(HB1_5.o.set 0 (.int .i64 (r:Int)))⟩ ?_;rintro w6 ⟨e6,bBT_6,bB0_6,bB1_6⟩;have HX6:=aj e6;have HBT_6:=aj bBT_6;have HB0_6:=aj bB0_6;have HB1_6:=aj bB1_6;clear e6 bBT_6 bB0_6 bB1_6 c1_0 f1_0;have gB1_0:=HB1_6.o.cell 0 rfl;refine bodyPost_ret (v:=.tuple #[.int .i64 (r:Int),.bool false]) (by simp[results,results123,go_sem,gB1_0]) rfl ⟨T1,M1,HBT_6.o,HGD.o,HX6.o.ext,Or.inr ⟨r,rfl,HBAD.o⟩⟩
   ·have HE2:=aj e2;clear e2;have HA:=aj ha;have HF0:=aj hf;clear ha hf;have ha0:¬ (a:Int)<0:=ae;have HST:=aj (xu HE.o HE2.o);have HKN:Hid (k<N):=aj (yU (fun _ h=>lW h) HN.o (by rw[HT1.o];exact HST.o.1));have c0_0:=HB0_4.o.cell 0 rfl;have cT_3:=HBT_4.o.c3;go_wp2_with fail;refine cto (mN (HG.o.ext (HX4.o.ext)) (HBT_4.o) HE2.o (HB0_4.o) (HB1_4.o) HR.o hn) fun w5 e5=>?_
    have HX5:=aj (HX4.o.trans e5);have HBT_5:=aj (HBT_4.o.ext e5);have HB0_5:=aj (HB0_4.o.ext e5);have HB1_5:=aj (HB1_4.o.ext e5);clear e5 c0_0 cT_3;have c0_0:=HB0_5.o.cell 0 rfl;have c1_0:=HB1_5.o.cell 0 rfl;go_wp2_with fail;refine(py HG.o HX5.o.ext HBT_5.o HR.o HA.o HF0.o hn hm hq1 hq2 HTQ.o).mono ?_;rintro e w6 ⟨rfl,m_,kz,g_,t_⟩;have HX6:Hid (Mv X w (fun k=>X.heap.size<=k) w6):=aj (HX5.o.comp m_ (fun k hk=>Or.inl (HBT_5.o.up k hk)));have HB0_6:Hid (ax w6 (w.heap.size) (#[.pointer (some ⟨p,0,none⟩)]) 175):=aj (m_.aF HB0_5.o (fun hk=>HNE2B0.o _ hk rfl));have HNPB0:Hid (∀ k,(M1.mn r kz P.n).S p P.m k->k≠w.heap.size):=aj (TM.mm HNE2B0.o HB0_5.o.lt g_);have HB1_6:Hid (ax w6 (w.heap.size+1) (#[.int .i64 (r:Int)]) 3):=aj (m_.aF HB1_5.o (fun hk=>HNE2B1.o _ hk rfl));have HNPB1:Hid (∀ k,(M1.mn r kz P.n).S p P.m k->k≠w.heap.size+1):=aj (TM.mm HNE2B1.o HB1_5.o.lt g_);have HBT_6:=aj t_;clear m_ g_ t_ c0_0 c1_0;go_wp2_with fail;go_roundg (gk-1)
    case rel=>exact⟨rfl,k+1,(M1.mn r kz P.n),_,ae,aj ⟨HX6.o,HB0_6.o,HB1_6.o,(by rw[mU,HT1.o,HST.o.2];exact HBT_6.o),fun q hq=>⟨(HNPB0.o) q hq,(HNPB1.o) q hq⟩⟩⟩
    case measure=>have:=HKN.o;omega
theorem sJ(P:LP)(T:aO)(p:Nat)(M:TM)(q:Nat)(X w:World)(g:Gd X)(hX:Ext X w)(hT:TA X P T p M w)(SZ:zP P q)(hn:P.n<=1000)(hm:P.m<=1000)(hq1:1<=q)(hq2:q<=400)(hG:Good P T)(hP:Pos P T):Calls prog 125 #[.pointer (some ⟨p,0,none⟩)] w (EK X P p):=by
 have HG:=aj g;have HBT:=aj hT;have HG0:=aj hG;have HP0:=aj hP;clear g hT hG hP;have HX0:Hid (Mv X w (fun k=>X.heap.size<=k) w):=aj (Mv.refl hX (fun k h=>h));clear hX;go_enter func125,ntmps125;go_upto_region 1 with fail
 have HNEBTB0:Hid (∀ q_,M.S p P.m q_->q_≠w.heap.size):=aj (HBT.o.ne ah);refine ay (fun W=>Mv X w (fun k=>X.heap.size<=k) W/\TA X P T p M W/\ax W (w.heap.size) (#[.pointer (some ⟨p,0,none⟩)]) 175) ⟨(HX0.o.alloc _),(HBT.o.alloc _),(ax.nw (#[.pointer (some ⟨p,0,none⟩)]) 175)⟩ ?_;rintro w1 ⟨e1,bBT_1,bB0_1⟩;have HX1:=aj e1;have HBT_1:=aj bBT_1;have HB0_1:=aj bB0_1;have HGEB0:Hid (w.heap.size<=w.heap.size):=aj (Nat.le_refl _);clear e1 bBT_1 bB0_1;rcases BK P T with⟨a,e0,ha,ho,hw⟩|e0
 ·have HE0:=aj e0;have HA:=aj ha;have HO:=aj ho;have HW:=aj hw;clear e0 ha ho hw;have ha0:(0:Int)<=(a:Int):=ae;have c0_0:=HB0_1.o.cell 0 rfl;have cT_3:=HBT_1.o.c3;go_wp2_with fail;refine cto (mM (HG.o.ext (HX1.o.ext)) (HBT_1.o) HE0.o (HB0_1.o) hn) fun w2 e2=>?_
  have HX2:=aj (HX1.o.trans e2);have HBT_2:=aj (HBT_1.o.ext e2);have HB0_2:=aj (HB0_1.o.ext e2);clear e2 c0_0 cT_3;go_wp2;go_ret2;exact⟨T,M,HBT_2.o,HG0.o,HX2.o.ext,Or.inl ⟨a,rfl,HP0.o,HA.o,HO.o,HW.o⟩⟩
 ·have HE0:=aj e0;have HGM:Hid (eY P T):=aj ⟨HG0.o.inv,HG0.o.fz,Bb ae,HP0.o⟩;obtain⟨N,hN⟩:=yx HGM.o;have HN:=aj hN;clear hN e0;have c0_0:=HB0_1.o.cell 0 rfl;have cT_3:=HBT_1.o.c3;go_wp2_with fail;refine cto (mM (HG.o.ext (HX1.o.ext)) (HBT_1.o) HE0.o (HB0_1.o) hn) fun w2 e2=>?_
  have HX2:=aj (HX1.o.trans e2);have HBT_2:=aj (HBT_1.o.ext e2);have HB0_2:=aj (HB0_1.o.ext e2);clear e2 c0_0 cT_3;go_wp2_with fail;go_loopg [3] N (fun gk x0_ wx=>x0_ = .bool false/\∃ (k:Nat) (M1:TM) ,N<=k+gk/\Hid (Mv X w (fun k=>X.heap.size<=k) wx/\ax wx (w.heap.size) #[.pointer (some ⟨p,0,none⟩)] 175/\TA X P (mU P.fI k T) p M1 wx/\(∀ q,M1.S p P.m q->q≠w.heap.size)))
  case atStart=>exact⟨rfl,0,M,ae,aj ⟨HX2.o,HB0_2.o,HBT_2.o,fun q hq=>(HNEBTB0.o) q hq⟩⟩
  case round =>
   rename World=>w3
   obtain⟨rfl,k,M1,hkN,HH⟩:=hrel;obtain⟨T1,eT⟩:∃ T1,mU P.fI k T=T1:=⟨_,rfl⟩
   rw[eT] at HH;have HT1:=aj eT;clear eT;have HX3:=aj HH.o.1;have HB0_3:=aj HH.o.2.1;have HBT_3:=aj HH.o.2.2.1;have HNE3B0:Hid (∀ q,M1.S p P.m q->q≠w.heap.size):=aj (fun q hq=>(HH.o.2.2.2 q hq));clear HH;have HGD:=aj (HT1.o▸HGM.o.Eh k:eY P T1);have HTQ:=aj (SZ T1 HGD.o.inv);rcases Cq P T1 with e1|⟨a,e1,ha,ho,hw⟩
   ·have HOK:=aj (Bc (by omega:P.tj T1<0));have HE:=aj e1;clear e1;have c0_0:=HB0_3.o.cell 0 rfl;have cT_3:=HBT_3.o.c3;go_wp2_with fail;refine cto (mL (HG.o.ext (HX3.o.ext)) (HBT_3.o) HE.o (HB0_3.o) hn) fun w4 e4=>?_
    have HX4:=aj (HX3.o.trans e4);have HBT_4:=aj (HBT_3.o.ext e4);have HB0_4:=aj (HB0_3.o.ext e4);clear e4 c0_0 cT_3;go_wp2;go_ret2;exact⟨T1,M1,HBT_4.o,HGD.o.DQ,HX4.o.ext,Or.inr (Or.inl ⟨rfl,HGD.o,HOK.o⟩)⟩
   ·have HE:=aj e1;clear e1;have HA:=aj ha;have HO:=aj ho;have HW:=aj hw;clear ha ho hw;have ha0:¬ (a:Int)<0:=ae;have c0_0:=HB0_3.o.cell 0 rfl;have cT_3:=HBT_3.o.c3;go_wp2_with fail;refine cto (mL (HG.o.ext (HX3.o.ext)) (HBT_3.o) HE.o (HB0_3.o) hn) fun w4 e4=>?_
    have HX4:=aj (HX3.o.trans e4);have HBT_4:=aj (HBT_3.o.ext e4);have HB0_4:=aj (HB0_3.o.ext e4);clear e4 c0_0 cT_3;go_upto_region 7 with fail
    rcases yy P T1 a with e2|⟨r,e2,hr,hf⟩
    ·have HFN:=aj (Cr (by omega:P.lv T1 a P.m<0));have HE2:=aj e2;clear e2;have c0_0:=HB0_4.o.cell 0 rfl;go_wp2_with fail;refine cto (uf (HG.o.ext (HX4.o.ext)) (HBT_4.o) HE2.o HA.o hm HTQ.o hq1 hq2) fun w5 e5=>?_
     have HX5:=aj (HX4.o.trans e5);have HBT_5:=aj (HBT_4.o.ext e5);have HB0_5:=aj (HB0_4.o.ext e5);clear e5 c0_0;go_wp2;go_ret2;exact⟨T1,M1,HBT_5.o,HGD.o.DQ,HX5.o.ext,Or.inr (Or.inr ⟨a,rfl,HGD.o,HA.o,HO.o,HW.o,HFN.o⟩)⟩
    ·have HE2:=aj e2;clear e2;have HR:=aj hr;have HF0:=aj hf;clear hr hf;have hr0:¬ (r:Int)<0:=ae;have HST:=aj (xt HE.o HE2.o);have HKN:Hid (k<N):=aj (yU (fun _ h=>lV h) HN.o (by rw[HT1.o];exact HST.o.1));have c0_0:=HB0_4.o.cell 0 rfl;go_wp2_with fail;refine cto (uf (HG.o.ext (HX4.o.ext)) (HBT_4.o) HE2.o HA.o hm HTQ.o hq1 hq2) fun w5 e5=>?_
     have HX5:=aj (HX4.o.trans e5);have HBT_5:=aj (HBT_4.o.ext e5);have HB0_5:=aj (HB0_4.o.ext e5);clear e5 c0_0;have c0_0:=HB0_5.o.cell 0 rfl;go_wp2_with fail;refine(py HG.o HX5.o.ext HBT_5.o HR.o HA.o HF0.o hn hm hq1 hq2 HTQ.o).mono ?_;rintro e w6 ⟨rfl,m_,kz,g_,t_⟩;have HX6:Hid (Mv X w (fun k=>X.heap.size<=k) w6):=aj (HX5.o.comp m_ (fun k hk=>Or.inl (HBT_5.o.up k hk)));have HB0_6:Hid (ax w6 (w.heap.size) (#[.pointer (some ⟨p,0,none⟩)]) 175):=aj (m_.aF HB0_5.o (fun hk=>HNE3B0.o _ hk rfl));have HNPB0:Hid (∀ k,(M1.mn r kz P.n).S p P.m k->k≠w.heap.size):=aj (TM.mm HNE3B0.o HB0_5.o.lt g_);have HBT_6:=aj t_;clear m_ g_ t_ c0_0;go_wp2_with fail;go_roundg (gk-1)
     case rel=>exact⟨rfl,k+1,(M1.mn r kz P.n),ae,aj ⟨HX6.o,HB0_6.o,(by rw[mU,HT1.o,HST.o.2];exact HBT_6.o),fun q hq=>(HNPB0.o) q hq⟩⟩
     case measure=>have:=HKN.o;omega
end Go.Proofs.YtmahadmefplbnaaGreatDoor
