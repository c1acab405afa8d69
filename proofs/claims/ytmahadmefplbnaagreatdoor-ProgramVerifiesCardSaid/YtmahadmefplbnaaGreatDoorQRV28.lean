/- Part 28. -/
import Derived.Test.YtmahadmefplbnaaGreatDoorQRV27
import Derived.Laws.AppendOwn
set_option maxRecDepth 100000
set_option maxHeartbeats 2000000
set_option linter.unusedSimpArgs false
set_option linter.unusedVariables false
theorem Go.Proofs.YtmahadmefplbnaaGreatDoor.Hi28 {p:Prop} (h:p):Go.RowKit.Hid p:=h
namespace Go.Proofs.YtmahadmefplbnaaGreatDoor
open Go Go.RowKit
def Osl (X w:World) (t:TypeId) (sz:Nat) (v:Value) (n:Nat) (G:Nat->Value):Prop :=
 (v = .slice none 0 0/\n=0)∨∃ (k cap:Nat) (C:Array Value),v = .slice (some ⟨k,0,none⟩) n cap/\X.heap.size<=k/\Blk w k C t/\n<=cap/\cap<=maxLen/\C.size=cap*sz/\∀ i,i<n*sz->C[i]?=some (G i)
def vob (v:Value) (k:Nat):Prop:=v.ownBlock=some k
theorem vob_nil {k:Nat}:¬ vob (.slice none 0 0) k:=fun h=>by simp [vob,Value.ownBlock] at h
theorem vob_some {k k' n c:Nat}:vob (.slice (some ⟨k,0,none⟩) n c) k' ↔ k=k':=by simp [vob,Value.ownBlock]
section
variable {X w w':World} {t:TypeId} {sz n:Nat} {v:Value} {G G':Nat->Value}
theorem Osl.nil (X w:World) (t:TypeId) (sz:Nat) (G:Nat->Value):Osl X w t sz (.slice none 0 0) 0 G:=Or.inl ⟨rfl,rfl⟩
theorem Osl.blk (h:Osl X w t sz v n G) (hn:0<n):∃ (k cap:Nat) (C:Array Value),v = .slice (some ⟨k,0,none⟩) n cap/\X.heap.size<=k/\Blk w k C t/\n<=cap/\cap<=maxLen/\C.size=cap*sz/\∀ i,i<n*sz->C[i]?=some (G i):=by
 rcases h with ⟨_,h⟩|h
 ·omega
 ·exact h
theorem Osl.congr (h:Osl X w t sz v n G) (e:∀ i,i<n*sz->G i=G' i):Osl X w t sz v n G':=by
 rcases h with h|⟨k,cap,C,h1,h2,h3,h4,h5,h6,h7⟩
 ·exact Or.inl h
 ·exact Or.inr ⟨k,cap,C,h1,h2,h3,h4,h5,h6,fun i hi=>by rw [← e i hi];exact h7 i hi⟩
theorem Osl.ext (h:Osl X w t sz v n G) (e:Ext w w'):Osl X w' t sz v n G:=by
 rcases h with h|⟨k,cap,C,h1,h2,h3,h4⟩
 ·exact Or.inl h
 ·exact Or.inr ⟨k,cap,C,h1,h2,h3.ext e,h4⟩
theorem Osl.mv {Y w0:World} {S:Nat->Prop} (h:Osl X w0 t sz v n G) (m:Mv Y w0 S w') (hs:∀ k,vob v k->¬ S k):Osl X w' t sz v n G:=by
 rcases h with h|⟨k,cap,C,h1,h2,h3,h4⟩
 ·exact Or.inl h
 ·exact Or.inr ⟨k,cap,C,h1,h2,m.blk h3 (hs k (by rw [h1];exact vob_some.2 rfl)),h4⟩
theorem Osl.lt (h:Osl X w t sz v n G) {k:Nat} (hk:vob v k):X.heap.size<=k/\k<w.heap.size:=by
 rcases h with ⟨h,_⟩|⟨k',cap,C,h1,h2,h3,h4⟩
 ·rw [h] at hk;exact absurd hk vob_nil
 ·rw [h1] at hk;rw [← vob_some.1 hk];exact ⟨h2,h3.lt⟩
theorem Osl.rd (h:Osl X w t 1 v n G):Rd w v n G:=by
 rcases h with ⟨rfl,rfl⟩|⟨k,cap,C,rfl,h2,h3,h4,h5,h6,h7⟩
 ·exact Rd.nil w G
 ·exact Rd.blk h3 h4 h5 (fun i hi=>h7 i (by omega))
end
def app (k:Nat) (G H:Nat->Value) (i:Nat):Value:=if i<k then G i else H (i-k)
theorem app_lt {k i:Nat} {G H:Nat->Value} (h:i<k):app k G H i=G i:=if_pos h
theorem app_ge {k i:Nat} {G H:Nat->Value} (h:¬ i<k):app k G H i=H (i-k):=if_neg h
theorem range_get {n i:Nat} {G:Nat->Value} (h:i<n):((List.range n).map G)[i]?=some (G i):=by simp [h]
theorem app_get {a b i:Nat} {G H:Nat->Value} (h:i<a+b) (rest:List Value):((List.range a).map G ++ (List.range b).map H ++ rest)[i]?=some (app a G H i):=by
 by_cases hi:i<a
 ·rw [app_lt hi,List.append_assoc,List.getElem?_append_left (by simpa using hi)];exact range_get hi
 ·rw [app_ge hi,List.append_assoc,List.getElem?_append_right (by simpa using hi),List.getElem?_append_left (by simp;omega)];simp only [List.length_map,List.length_range];exact range_get (by omega)
section
variable {P:Program} {X w:World} {e:TypeId} {z:Value} {sz bytes n m c cap:Nat} {v:Value} {G H:Nat->Value} {ad:Addr}
structure App (X w:World) (e:TypeId) (sz:Nat) (v:Value) (n m:Nat) (G H:Nat->Value) (v':Value) (w':World):Prop where
 own:Osl X w' e sz v' (n+m) (app (n*sz) G H)
 mv:Mv X w (vob v) w'
 new:∀ k,vob v' k->vob v k∨w.heap.size<=k
theorem mv_alloc (hX:Ext X w) {S:Nat->Prop} (hS:∀ k,S k->X.heap.size<=k) (o:Obj):Mv X w S (w.drew.alloc o):=((Mv.refl hX hS).drew).alloc o
theorem grown_own (hX:Ext X w) (cs:Array Value) (hcm:cap<=maxLen) (hnc:n+m<=cap) (hsz:cs.size=cap*sz) (hc:∀ i,i<(n+m)*sz->cs[i]?=some (app (n*sz) G H i)) (hv:∀ k,vob v k->X.heap.size<=k) :
    App X w e sz v n m G H (.slice (some ⟨w.heap.size,0,none⟩) (n+m) cap) (w.drew.alloc (.cells cs e)) :=
 ⟨Or.inr ⟨_,_,cs,rfl,hX.size,Blk.new _ _ _,hnc,hcm,hsz,hc⟩,mv_alloc hX hv _,fun k hk=>Or.inr (by rw [vob_some] at hk;omega)⟩
theorem cells_size {old:Nat} (xs ys:List Value) (hx:xs.length=n*sz) (hy:ys.length=m*sz) (hz:z.cells.size=sz) (hc:n+m<=cap):(xs.toArray ++ ys.toArray ++ Builtin.zeroCells z.cells (cap-(n+m))).size=cap*sz:=by
 simp only [Array.size_append,List.size_toArray,size_zeroCells,hz,hx,hy,← Nat.add_mul];congr 1;omega
theorem cells_get (zs:Array Value) {a b i:Nat} (hi:i<a+b):(((List.range a).map G).toArray ++ ((List.range b).map H).toArray ++ zs)[i]?=some (app a G H i):=by
 have:=app_get (G:=G) (H:=H) hi zs.toList;rw [← Array.getElem?_toList];simpa using this
theorem src_cells (hsrc:∀ j,j<m*sz->w.cell? (ad.add j)=some (H j)):∀ j u,((List.range (m*sz)).map H)[j]?=some u->w.cell? (ad.add j)=some u:=by
 intro j u hu;by_cases hj:j<m*sz
 ·rw [range_get hj] at hu;rw [hsrc j hj];exact hu
 ·rw [List.getElem?_eq_none (by simp;omega)] at hu;cases hu
theorem blk_add {k:Nat} {C:Array Value} {t:TypeId} (h:Blk w k C t) {j:Nat} {u:Value} (hu:C[j]?=some u):w.cell? ((⟨k,0,none⟩:Addr).add j)=some u:=by
 have e:(⟨k,0,none⟩:Addr).add j=⟨k,j,none⟩:=by unfold Addr.add;split <;> simp_all
 rw [e];exact h.cell j hu
theorem run_append {t ty : TypeId} (ht : P.underlying t = some (.slice e)) (hi : (P.info? e).map (fun i => (i.zero, i.size, i.bytes)) = some (some z, sz, bytes)) (hzs : z.cells.size = sz)
    (hX:Ext X w) (h:Osl X w e sz v n G) (hm0:v = .slice none 0 0->0<m) (hsrc:∀ j,j<m*sz->w.cell? (ad.add j)=some (H j)) (h1:∀ j,j<m*sz->(H j).oneCell'=true) (h63:n+m<=maxLen) (hb:(n+m)*bytes<=140737488355328) :
    ∃ v' w',(Builtin.append_ #[t,t] ty #[v,.slice (some ad) m c]).run P w = .ok v' w'/\App X w e sz v n m G H v' w':=by
 obtain ⟨i,hi0,hi1⟩:∃ i,P.info? e=some i/\(i.zero,i.size,i.bytes)=(some z,sz,bytes):=by
  cases hh:P.info? e with
  | none=>rw [hh] at hi;cases hi
  | some i=>rw [hh] at hi;exact ⟨i,rfl,Option.some.inj hi⟩
 simp only [Prod.mk.injEq] at hi1;obtain ⟨hz,hs,hby⟩:=hi1;subst hs;subst hby;have hns:=src_cells hsrc;have hone:∀ u ∈ (List.range (m*i.size)).map H,u.oneCell'=true:=fun u hu=>by
  simp only [List.mem_map,List.mem_range] at hu;obtain ⟨j,hj,rfl⟩:=hu;exact h1 j hj
 have hsmall:n+m<=9223372036854775807:=by simp only [maxLen] at h63;omega
 have hup:∀ k,vob v k->X.heap.size<=k:=fun k hk=>(h.lt hk).1
 rcases h with ⟨rfl,rfl⟩|⟨k,cap,C,rfl,hk,hB,hnc,hcm,hsz,hC⟩
 ·refine ⟨_,_,run_append_nil (P:=P) w t ty e i z ht hi0 hz ad m c _ (by simp) hns (hm0 rfl) (by omega) (by rw [Nat.zero_add] at hb;omega),?_⟩;have hge:=grownCap_ge w m 0 e;have hm1:=hm0 rfl;have:=grown_own (G:=G) (H:=H) (n:=0) (m:=m) (sz:=i.size) (e:=e) (v:=.slice none 0 0) (cap:=grownCap w m 0 e) hX (((List.range (0*i.size)).map G).toArray ++ ((List.range (m*i.size)).map H).toArray ++ Builtin.zeroCells z.cells (grownCap w m 0 e-(0+m)))
   (grownCap_le_maxLen w m 0 e (by omega)) (by omega) (cells_size (old:=0) _ _ (by simp) (by simp) hzs (by omega)) (fun j hj=>cells_get _ (by rw [← Nat.add_mul];exact hj)) hup
  simpa using this
 ·by_cases hroom:n+m<=cap
  ·have hfit:n*i.size+((List.range (m*i.size)).map H).length<=C.size:=by simp only [List.length_map,List.length_range];rw [hsz,← Nat.add_mul];exact Nat.mul_le_mul_right _ hroom
   refine ⟨_,_,run_append_room (P:=P) w t ty e i ht hi0 k n cap C hB.out ad m c _ (by simp) hns hone hroom hfit,?_,?_,?_⟩
   ·refine Or.inr ⟨k,cap,_,rfl,hk,hB.setRow,hroom,hcm,?_,fun j hj=>?_⟩
    ·simp only [List.size_toArray,List.length_append,List.length_take,List.length_drop,Array.length_toList,List.length_map,List.length_range] at hfit ⊢;omega
    ·have hl:(C.toList.take (n*i.size)).length=n*i.size:=by simp only [List.length_map,List.length_range] at hfit;simp;omega
     rw [Nat.add_mul] at hj;simp only [List.getElem?_toArray];by_cases h1:j<n*i.size
     ·rw [app_lt h1,List.append_assoc,List.getElem?_append_left (by omega),List.getElem?_take,if_pos h1,Array.getElem?_toList];exact hC j h1
     ·rw [app_ge h1,List.append_assoc,List.getElem?_append_right (by omega),hl,List.getElem?_append_left (by simp;omega)];exact range_get (by omega)
   ·exact (Mv.refl hX hup).setRow (Or.inl (vob_some.2 rfl)) hB
   ·exact fun k' hk'=>Or.inl (vob_some.2 (vob_some.1 hk'))
  ·have hlt:n*i.size<=C.size:=by rw [hsz];exact Nat.mul_le_mul_right _ hnc
   have holds:∀ j u,((List.range (n*i.size)).map G)[j]?=some u->w.cell? ((⟨k,0,none⟩:Addr).add j)=some u:=fun j u hu=>by
    by_cases hj:j<n*i.size
    ·rw [range_get hj] at hu;rw [blk_add hB (hC j hj)];exact hu
    ·rw [List.getElem?_eq_none (by simp;omega)] at hu;cases hu
   refine ⟨_,_,run_append_grow (P:=P) w t ty e i z ht hi0 hz ⟨k,0,none⟩ n cap _ (by simp) holds ad m c _ (by simp) hns (by omega) (by omega) (growslice_fits (by omega) hb),?_⟩;have hge:=grownCap_ge w (n+m) cap e;exact grown_own hX _ (grownCap_le_maxLen w (n+m) cap e h63) hge (cells_size (old:=0) _ _ (by simp) (by simp) hzs (by omega)) (fun j hj=>cells_get _ (by rw [← Nat.add_mul];exact hj)) hup
theorem op_append {o:Oper} {a:Act} {Q:Exit->Act->World->Prop} {K:Act->World->Prop} {s x:Operand} {t:TypeId} (ho:o.op = .call { callee:=.builtin .append,args:=#[s,x],argTypes:=#[t,t] })
    (hs:a.eval s=v) (hx:a.eval x = .slice (some ad) m c) (ht:P.underlying t=some (.slice e)) (hi:(P.info? e).map (fun i=>(i.zero,i.size,i.bytes))=some (some z,sz,bytes)) (hzs:z.cells.size=sz)
    (hX:Ext X w) (h:Osl X w e sz v n G) (hm0:v = .slice none 0 0->0<m) (hsrc:∀ j,j<m*sz->w.cell? (ad.add j)=some (H j)) (h1:∀ j,j<m*sz->(H j).oneCell'=true) (h63:n+m<=maxLen) (hb:(n+m)*bytes<=140737488355328)
    (hK:∀ v' w',App X w e sz v n m G H v' w'->K (a.put o.dst v') w'):o.wp P a w K Q:=by
 obtain ⟨v',w',hr,hA⟩:=run_append (P:=P) (ty:=o.type) (c:=c) ht hi hzs hX h hm0 hsrc h1 h63 hb;unfold Oper.wp execOp;simp only [ho,resolve,invoke,builtin,Sem.run_bind,Sem.run_pure,Result.andThen_ok,List.map_toArray,List.map_cons,List.map_nil,hs,hx,hr];exact hK v' w' hA
end
theorem sgn_ge {q:Rat} (h:¬ q<0):0<=q:=by grind
theorem sgn_notge {q:Rat} (h:q<0):decide (0<=q)=false:=by
 rw [decide_eq_false_iff_not];grind
theorem qcmp3 (a b:Rat):(a<b/\qcmp a b=-1)∨(a=b/\qcmp a b=0)∨(b<a/\qcmp a b=1):=by
 unfold qcmp;by_cases h1:a<b
 ·exact Or.inl ⟨h1,if_pos h1⟩
 ·by_cases h2:a=b
  ·exact Or.inr (Or.inl ⟨h2,by rw [if_neg h1,if_pos h2]⟩)
  ·exact Or.inr (Or.inr ⟨by grind,by rw [if_neg h1,if_neg h2]⟩)
def mst (T:Tab) (a:Nat) (r:Int):ByteArray:=if r<0 then ⟨#[]⟩ else qs (T.ratio a r.toNat)
theorem mst_neg {T:Tab} {a:Nat}:mst T a (-1)=⟨#[]⟩:=if_pos (by decide)
theorem mst_nat {T:Tab} {a i:Nat}:mst T a (i:Int)=qs (T.ratio a i):=by unfold mst;rw [if_neg (by omega),Int.toNat_natCast]
section
variable {P:LP} {T:Tab} {a k i:Nat}
theorem lv_ways (P:LP) (T:Tab) (a k:Nat):P.lv T a k=-1∨∃ i:Nat,i<k/\P.lv T a k=(i:Int):=by
 rcases lv_spec P T a k with ⟨h,_⟩|⟨i,h1,h2,_⟩
 ·exact Or.inl h
 ·exact Or.inr ⟨i,h1,h2⟩
theorem lv_skip (h:¬ P.n<=T.b k∨0<=T.f k a):P.lv T a (k+1)=P.lv T a k:=by rw [LP.lv,if_pos h]
theorem lv_in (h1:P.n<=T.b k) (h2:T.f k a<0):¬ (¬ P.n<=T.b k∨0<=T.f k a):=fun h=>h.elim (fun h=>h h1) (fun h=>by grind)
theorem lv_first (h1:P.n<=T.b k) (h2:T.f k a<0) (e:P.lv T a k=-1):P.lv T a (k+1)=(k:Int):=by rw [LP.lv,if_neg (lv_in h1 h2),if_neg (fun h=>by omega)]
def Kp (T:Tab) (a i k:Nat):Prop:=T.ratio a i<T.ratio a k∨T.ratio a i=T.ratio a k/\T.b i<T.b k
theorem lv_keep (h1:P.n<=T.b k) (h2:T.f k a<0) (e:P.lv T a k=(i:Int)) (h:Kp T a i k):P.lv T a (k+1)=(i:Int):=by
 rw [LP.lv,if_neg (lv_in h1 h2),e,Int.toNat_natCast,if_pos ⟨by omega,h⟩]
theorem lv_take (h1:P.n<=T.b k) (h2:T.f k a<0) (e:P.lv T a k=(i:Int)) (h:¬ Kp T a i k):P.lv T a (k+1)=(k:Int):=by
 rw [LP.lv,if_neg (lv_in h1 h2),e,Int.toNat_natCast,if_neg (fun h'=>h h'.2)]
theorem tk_lt (h:T.ratio a k<T.ratio a i):¬ Kp T a i k:=fun h'=>h'.elim (fun x=>by grind) (fun x=>by grind)
theorem kp_gt (h:T.ratio a i<T.ratio a k):Kp T a i k:=Or.inl h
theorem kp_eq (h:T.ratio a k=T.ratio a i) (hb:T.b i<T.b k):Kp T a i k:=Or.inr ⟨h.symm,hb⟩
theorem tk_eq (h:T.ratio a k=T.ratio a i) (hb:¬ T.b i<T.b k):¬ Kp T a i k:=fun h'=>h'.elim (fun x=>by grind) (fun x=>hb x.2)
end
theorem leave_c (P:LP) (T:Tab) (p:Nat) (vb vl vo vw:Value) (vf:Nat->Value) (w:World) (at_:Nat) {q:Nat} (g:Gd w) (hT:TR P T w p vb vl vo vw vf) (hat:at_<P.n) (hm:P.m<=1000) (Q:TQ P T q) (hq1:1<=q) (hq2:q<=400):Calls Tryz.prog 206 #[.pointer (some ⟨p,0,none⟩),.int .i64 (at_:Int)] w (Ret w (.int .i64 (P.lv T at_ P.m))):=by
 have HG:=Hi28 g;have HAT:=Hi28 hat;clear g hat;have HQc:=Hi28 Q.c;have HQf:=Hi28 Q.f;clear Q;have HQR:Hid (∀ i,i<P.m->QB (q+q) (T.ratio at_ i)):=Hi28 (fun i hi=>(HQc.out i hi).div (HQf.out i hi at_ HAT.out).neg hq1);obtain ⟨CP,b1,p0⟩:=hT.tab;obtain ⟨bo,bc,rfl,zb1,zb2,hb⟩:=hT.b;obtain ⟨lo_,lc,rfl,zl1,zl2,hl⟩:=hT.l;obtain ⟨oo,oc,rfl,zo1,zo2,ho⟩:=hT.o;obtain ⟨wo,wcap,rfl,zw1,zw2,hw⟩:=hT.wf;have HF:=Hi28 hT.f;have HTR:=Hi28 hT;have HBp:=Hi28 b1;have HP0:Hid (_/\_/\_/\_/\_/\_):=Hi28 p0;have HRB:=Hi28 hb;have HRL:=Hi28 hl;have HRO:=Hi28 ho;have HRW:=Hi28 hw;clear b1 p0 hb hl ho hw hT zb1 zb2 zl1 zl2 zo1 zo2 zw1 zw2;have hat2:(at_:Int)<(P.n:Int):=by have:=HAT.out;omega
 go_enter Tryz.func206,Tryz.ntmps206;have cp_2:=HBp.out.cell (2) HP0.out.2.2.1;go_wp2_with fail;clear cp_2;go_loopw [17,5,6] (fun x0_ x1_ x2_ wx=>∃ k:Nat,x0_ = .int .i64 k/\x1_ = .int .i64 (P.lv T at_ k)/\x2_ = .string (mst T at_ (P.lv T at_ k))/\k<=P.m/\Hid (Ext w wx)) (fun x0_ _ _ _=>P.m-(intOf x0_).toNat)
 case atStart=>exact ⟨0,rfl,rfl,by rw [LP.lv,mst_neg],Nat.zero_le _,Hi28 (Ext.refl w)⟩
 case round =>
  rename World=>w1
  obtain ⟨k,rfl,rfl,rfl,hkk,HH⟩:=hrel;have HX1:=Hi28 HH.out;have HBp_1:=Hi28 (HBp.out.ext HX1.out);clear HH;by_cases hlt:k<P.m
  ·have hlt2:(k:Int)<((P.m:Nat):Int):=by omega
   obtain ⟨ba,rfl,zb_⟩:=HRB.out k hlt;have HCb_k:=Hi28 zb_;clear zb_;obtain ⟨la,rfl,zl_,zm_⟩:=HRL.out k hlt;have HCl_k:=Hi28 zl_;have HCm_k:=Hi28 zm_;clear zl_ zm_;obtain ⟨fo,fcap,ef_,_,_,hf_⟩:=HF.out k hlt;obtain ⟨fa,rfl,zf_⟩:=hf_ at_ HAT.out;rw [ef_] at HCm_k;have HCf:=Hi28 zf_;clear zf_ hf_ ef_;have cl_k___2:=keepA HX1.out (HCl_k.out);have cl_k___2___1:=keepA HX1.out (HCm_k.out);by_cases h1:P.n<=T.b k
   ·have h1p:=Hi28 h1;clear h1;by_cases h2:T.f k at_<0
    ·have h3:=sgn_notge h2;have HF0:=Hi28 h2;have HNZ:Hid (-T.f k at_≠0):=Hi28 (by grind);clear h2;go_upto_region 6 with fail
     refine wp_name (fun W=>Ext w W/\Blk W (p) (CP) 185/\Blk W (w1.heap.size) (#[.string (qs (T.c k)),.slice (some fa) P.n fcap]) 182) ⟨(HX1.out.alloc _),(HBp_1.out.alloc _),(Blk.nw (#[.string (qs (T.c k)),.slice (some fa) P.n fcap]) 182)⟩ ?_;rintro w2 ⟨e2,bBp_2,bB0_2⟩;have HX2:=Hi28 e2;have HBp_2:=Hi28 bBp_2;have HB0_2:=Hi28 bB0_2;have HGEB0:Hid (w.heap.size<=w1.heap.size):=Hi28 (HX1.out.size);clear e2 bBp_2 bB0_2 cl_k___2 cl_k___2___1;have cp_1:=HBp_2.out.cell (1) HP0.out.2.1;have cb_k:=keepA HX2.out (HCb_k.out);go_wp2_with fail;refine (slack_c (n:=P.n) p (T.b k) true _ (HBp_2.out) HP0.out.1 (by have:=h1p.out;simp;omega)).mono ?_;rintro e _ ⟨rfl,rfl⟩;clear cp_1 cb_k;have c0_1:=HB0_2.out.cell 1 rfl;have cf_at_:=keepA HX2.out (HCf.out);go_wp2_with fail;refine (rsign_c (T.f k at_) _).mono ?_;rintro e _ ⟨rfl,rfl⟩;clear c0_1 cf_at_;go_wp2_with fail;refine region_e [.val (.pointer (some ⟨w1.heap.size,0,none⟩)),.val (.string (qs (T.c k))),.val (.pointer (some ⟨w1.heap.size,1,none⟩)),.val (.slice (some fa) P.n fcap),.val (.int .i64 (at_:Int)),.val (.pointer (some (fa.add at_))),.val (.string (qs (T.f k at_))),.val (.string (qs (-T.f k at_))),.val (.tuple #[.string (qs (T.c k / -T.f k at_)),.int .i64 0]),.val (.tuple #[.string (qs (T.c k / -T.f k at_)),.int .i64 0]),.val (.string (qs (T.c k / -T.f k at_))),.val (.int .i64 0),.val (.string (qs (T.c k / -T.f k at_))),.val (.int .i64 0)] (fun L g W=>True) (S:=fun _=>False) (by kernel_rfl) (by kernel_rfl) (by kernel_rfl) (Mv.refl HX2.out (fun k h=>h.elim)) ?_ ?_ ?_ ?_ (fun gv_ w3 hm_ he_=>?_)
     ·exact fun _=>trivial
     ·exact fun _ _ _ _ h _=>h
     ·exact fun _ _ _ _ _ _ h=>h
     ·skip
      refine RI 8 (.pointer (some ⟨w1.heap.size,0,none⟩))<|J2 (fun hs_=>hs_.val 0) (fun hs_=>(hs_.mv.blk HB0_2.out (fun h=>h)).cell 0 rfl)<|RI 8 (.pointer (some ⟨w1.heap.size,0,none⟩))<|J2 (fun hs_=>hs_.val 2) (fun hs_=>(hs_.mv.blk HB0_2.out (fun h=>h)).cell 1 rfl)<|RI 1 (.int .i64 (at_:Int))<|R2 3 4<|J2 (fun hs_=>hs_.val 5) (fun hs_=>keepA hs_.mv.ext (HCf.out)) ?_;refine RV (fun A_ hs_ K_ hK_=>?_) ?_;· have q48_:=hs_.val 6;go_simp;refine (rneg_c (T.f k at_) _ (HQf.out k hlt at_ HAT.out) (by omega)).mono ?_;rintro e W9_ ⟨rfl,e9_⟩;exact hK_.out _ e9_
      refine RV (fun A_ hs_ K_ hK_=>?_) ?_;· have q43_:=hs_.val 1;have q49_:=hs_.val 7;go_simp;refine (rdiv_c (T.c k) (-T.f k at_) _ (HG.out.ext hs_.mv.ext) (HQc.out k hlt) (HQf.out k hlt at_ HAT.out).neg (by omega) (by omega) (by omega) HNZ.out).mono ?_;rintro e W9_ ⟨rfl,e9_⟩;exact hK_.out _ e9_
      exact R1 8<|R1 9<|R1 9<|R1 10<|R1 11<|RnEL.nil
     simp only [fse,Ke.value,puts,Act.put,List.setIfInBounds_toArray,List.set_cons_zero,List.set_cons_succ];have HX3:Hid (Ext w w3):=Hi28 hm_.ext;have HBp_3:=Hi28 (hm_.blk HBp_2.out (fun h=>h));clear hm_ he_;go_upto_region 9 with fail
     rcases lv_ways P T at_ k with e0|⟨i0,z1,e0⟩
     ·rw [e0,mst_neg];have HE:=Hi28 e0;clear e0;go_wp2_with fail;go_roundw
      case rel=>exact ⟨k+1,by go_num,by rw [lv_first h1p.out HF0.out HE.out],by rw [lv_first h1p.out HF0.out HE.out,mst_nat];rfl,by omega,Hi28 HX3.out⟩
      case measure=>simp [intOf];omega
     ·rw [e0,mst_nat];have HE:=Hi28 e0;have hi0:=z1;clear e0 z1;have hn0:(0:Int)<=(i0:Int):=by omega
      have hi2:(i0:Int)<(P.m:Int):=by omega
      go_wp2_with fail;refine (rcompare_c (T.c k / -T.f k at_) (T.ratio at_ i0) _ (HG.out.ext (HX3.out)) ((HQc.out k hlt).div (HQf.out k hlt at_ HAT.out).neg (by omega)) (HQR.out i0 (by omega)) (by omega) (by omega)).mono ?_;rintro e w4 ⟨rfl,e4⟩;have HX4:=Hi28 (HX3.out.trans e4);have HBp_4:=Hi28 (HBp_3.out.ext e4);clear e4;go_upto_region 11 with fail
      have HCb_i0:=Hi28 (at_addr (HRB.out i0 (by omega)));rcases qcmp3 (T.ratio at_ k) (T.ratio at_ i0) with ⟨c1,c2⟩|⟨c1,c2⟩|⟨c1,c2⟩
      ·have HTK:=Hi28 (tk_lt c1);rw [show qcmp (T.c k / -T.f k at_) (T.ratio at_ i0)=(-1) from c2];clear c1 c2;go_wp2_with fail;refine region_e [.val (.int .i64 (-1)),.val (.bool false),.val (.bool false),.val (.int .i64 (-1)),.val (.bool false),.val (.bool false),.off,.off,.off,.off,.off,.off,.off,.off,.off,.off,.off,.off,.off,.off,.off,.val (.bool false),.val (.bool false)] (fun L g W=>True) (S:=fun _=>False) (by kernel_rfl) (by kernel_rfl) (by kernel_rfl) (Mv.refl HX4.out (fun k h=>h.elim)) ?_ ?_ ?_ ?_ (fun gv_ w5 hm_ he_=>?_)
       ·exact fun _=>trivial
       ·exact fun _ _ _ _ h _=>h
       ·exact fun _ _ _ _ _ _ h=>h
       ·skip
        exact RI 11 (.int .i64 (-1))<|R1 0<|R1 1<|RI 11 (.int .i64 (-1))<|R1 3<|R1 4<|RO<|RO<|RO<|RO<|RO<|RO<|RO<|RO<|RO<|RO<|RO<|RO<|RO<|RO<|RO<|J2 (fun hs_=>hs_.val 5) (fun hs_=>hs_.un 20)<|R2 2 21<|RnEL.nil
       simp only [fse,Ke.value,puts,Act.put,List.setIfInBounds_toArray,List.set_cons_zero,List.set_cons_succ];have HX5:Hid (Ext w w5):=Hi28 hm_.ext;have HBp_5:=Hi28 (hm_.blk HBp_4.out (fun h=>h));clear hm_ he_;go_wp2_with fail;go_roundw
       case rel=>exact ⟨k+1,by go_num,by rw [lv_take h1p.out HF0.out HE.out HTK.out],by rw [lv_take h1p.out HF0.out HE.out HTK.out,mst_nat];rfl,by omega,Hi28 HX5.out⟩
       case measure=>simp [intOf];omega
      ·by_cases hb:T.b i0<T.b k
       ·have HKP:=Hi28 (kp_eq c1 hb);have hb2:((T.b i0:Nat):Int)<((T.b k:Nat):Int):=by omega
        clear hb;rw [show qcmp (T.c k / -T.f k at_) (T.ratio at_ i0)=0 from c2];clear c1 c2;go_wp2_with fail;refine region_e [.val (.int .i64 0),.val (.bool false),.val (.bool false),.val (.int .i64 0),.val (.bool true),.val (.bool true),.val (.pointer (some ⟨p,0,none⟩)),.val (.pointer (some ⟨p,0,none⟩)),.val (.pointer (some ⟨p,1,none⟩)),.val (.slice (some ba) P.m bc),.val (.int .i64 (k:Int)),.val (.pointer (some (ba.add k))),.val (.int .i64 (T.b k:Int)),.val (.pointer (some ⟨p,0,none⟩)),.val (.pointer (some ⟨p,0,none⟩)),.val (.pointer (some ⟨p,1,none⟩)),.val (.slice (some ba) P.m bc),.val (.int .i64 (i0:Int)),.val (.pointer (some (ba.add i0))),.val (.int .i64 (T.b i0:Int)),.val (.bool true),.val (.bool true),.val (.bool true)] (fun L g W=>True) (S:=fun _=>False) (by kernel_rfl) (by kernel_rfl) (by kernel_rfl) (Mv.refl HX4.out (fun k h=>h.elim)) ?_ ?_ ?_ ?_ (fun gv_ w5 hm_ he_=>?_)
        ·exact fun _=>trivial
        ·exact fun _ _ _ _ h _=>h
        ·exact fun _ _ _ _ _ _ h=>h
        ·skip
         exact RI 11 (.int .i64 0)<|R1 0<|R1 1<|RI 11 (.int .i64 0)<|R1 3<|R1 4<|RI 0 (.pointer (some ⟨p,0,none⟩))<|R1 6<|R1 7<|J2 (fun hs_=>hs_.val 8) (fun hs_=>(hs_.mv.blk HBp_4.out (fun h=>h)).cell (1) HP0.out.2.1)<|RI 7 (.int .i64 (k:Int))<|R2 9 10<|J2 (fun hs_=>hs_.val 11) (fun hs_=>keepA hs_.mv.ext (HCb_k.out))<|RI 0 (.pointer (some ⟨p,0,none⟩))<|R1 13<|R1 14<|J2 (fun hs_=>hs_.val 15) (fun hs_=>(hs_.mv.blk HBp_4.out (fun h=>h)).cell (1) HP0.out.2.1)<|RI 5 (.int .i64 (i0:Int))<|R2 16 17<|J2 (fun hs_=>hs_.val 18) (fun hs_=>keepA hs_.mv.ext (HCb_i0.out))<|R2 12 19<|R2 5 20<|R2 2 21<|RnEL.nil
        simp only [fse,Ke.value,puts,Act.put,List.setIfInBounds_toArray,List.set_cons_zero,List.set_cons_succ];have HX5:Hid (Ext w w5):=Hi28 hm_.ext;have HBp_5:=Hi28 (hm_.blk HBp_4.out (fun h=>h));clear hm_ he_;go_wp2_with fail;go_roundw
        case rel=>exact ⟨k+1,by go_num,by rw [lv_keep h1p.out HF0.out HE.out HKP.out],by rw [lv_keep h1p.out HF0.out HE.out HKP.out,mst_nat],by omega,Hi28 HX5.out⟩
        case measure=>simp [intOf];omega
       ·have HTK:=Hi28 (tk_eq c1 hb);have hb2:decide (T.b i0<T.b k)=false:=decide_eq_false hb;clear hb;rw [show qcmp (T.c k / -T.f k at_) (T.ratio at_ i0)=0 from c2];clear c1 c2;go_wp2_with fail;refine region_e [.val (.int .i64 0),.val (.bool false),.val (.bool false),.val (.int .i64 0),.val (.bool true),.val (.bool true),.val (.pointer (some ⟨p,0,none⟩)),.val (.pointer (some ⟨p,0,none⟩)),.val (.pointer (some ⟨p,1,none⟩)),.val (.slice (some ba) P.m bc),.val (.int .i64 (k:Int)),.val (.pointer (some (ba.add k))),.val (.int .i64 (T.b k:Int)),.val (.pointer (some ⟨p,0,none⟩)),.val (.pointer (some ⟨p,0,none⟩)),.val (.pointer (some ⟨p,1,none⟩)),.val (.slice (some ba) P.m bc),.val (.int .i64 (i0:Int)),.val (.pointer (some (ba.add i0))),.val (.int .i64 (T.b i0:Int)),.val (.bool false),.val (.bool false),.val (.bool false)] (fun L g W=>True) (S:=fun _=>False) (by kernel_rfl) (by kernel_rfl) (by kernel_rfl) (Mv.refl HX4.out (fun k h=>h.elim)) ?_ ?_ ?_ ?_ (fun gv_ w5 hm_ he_=>?_)
        ·exact fun _=>trivial
        ·exact fun _ _ _ _ h _=>h
        ·exact fun _ _ _ _ _ _ h=>h
        ·skip
         exact RI 11 (.int .i64 0)<|R1 0<|R1 1<|RI 11 (.int .i64 0)<|R1 3<|R1 4<|RI 0 (.pointer (some ⟨p,0,none⟩))<|R1 6<|R1 7<|J2 (fun hs_=>hs_.val 8) (fun hs_=>(hs_.mv.blk HBp_4.out (fun h=>h)).cell (1) HP0.out.2.1)<|RI 7 (.int .i64 (k:Int))<|R2 9 10<|J2 (fun hs_=>hs_.val 11) (fun hs_=>keepA hs_.mv.ext (HCb_k.out))<|RI 0 (.pointer (some ⟨p,0,none⟩))<|R1 13<|R1 14<|J2 (fun hs_=>hs_.val 15) (fun hs_=>(hs_.mv.blk HBp_4.out (fun h=>h)).cell (1) HP0.out.2.1)<|RI 5 (.int .i64 (i0:Int))<|R2 16 17<|J2 (fun hs_=>hs_.val 18) (fun hs_=>keepA hs_.mv.ext (HCb_i0.out))<|R2 12 19<|R2 5 20<|R2 2 21<|RnEL.nil
        simp only [fse,Ke.value,puts,Act.put,List.setIfInBounds_toArray,List.set_cons_zero,List.set_cons_succ];have HX5:Hid (Ext w w5):=Hi28 hm_.ext;have HBp_5:=Hi28 (hm_.blk HBp_4.out (fun h=>h));clear hm_ he_;go_wp2_with fail;go_roundw
        case rel=>exact ⟨k+1,by go_num,by rw [lv_take h1p.out HF0.out HE.out HTK.out],by rw [lv_take h1p.out HF0.out HE.out HTK.out,mst_nat];rfl,by omega,Hi28 HX5.out⟩
        case measure=>simp [intOf];omega
      ·have HKP:=Hi28 (kp_gt c1);rw [show qcmp (T.c k / -T.f k at_) (T.ratio at_ i0)=1 from c2];clear c1 c2;go_wp2_with fail;refine region_e [.val (.int .i64 1),.val (.bool true),.val (.bool true),.off,.off,.off,.off,.off,.off,.off,.off,.off,.off,.off,.off,.off,.off,.off,.off,.off,.off,.off,.val (.bool true)] (fun L g W=>True) (S:=fun _=>False) (by kernel_rfl) (by kernel_rfl) (by kernel_rfl) (Mv.refl HX4.out (fun k h=>h.elim)) ?_ ?_ ?_ ?_ (fun gv_ w5 hm_ he_=>?_)
       ·exact fun _=>trivial
       ·exact fun _ _ _ _ h _=>h
       ·exact fun _ _ _ _ _ _ h=>h
       ·skip
        exact RI 11 (.int .i64 1)<|R1 0<|R1 1<|RO<|RO<|RO<|RO<|RO<|RO<|RO<|RO<|RO<|RO<|RO<|RO<|RO<|RO<|RO<|RO<|RO<|RO<|RO<|J2 (fun hs_=>hs_.val 2) (fun hs_=>hs_.un 21)<|RnEL.nil
       simp only [fse,Ke.value,puts,Act.put,List.setIfInBounds_toArray,List.set_cons_zero,List.set_cons_succ];have HX5:Hid (Ext w w5):=Hi28 hm_.ext;have HBp_5:=Hi28 (hm_.blk HBp_4.out (fun h=>h));clear hm_ he_;go_wp2_with fail;go_roundw
       case rel=>exact ⟨k+1,by go_num,by rw [lv_keep h1p.out HF0.out HE.out HKP.out],by rw [lv_keep h1p.out HF0.out HE.out HKP.out,mst_nat],by omega,Hi28 HX5.out⟩
       case measure=>simp [intOf];omega
    ·have h3:=sgn_ge h2;have HSK:Hid (¬ P.n<=T.b k∨0<=T.f k at_):=Hi28 (Or.inr (by grind));clear h2;go_upto_region 6 with fail
     refine wp_name (fun W=>Ext w W/\Blk W (p) (CP) 185/\Blk W (w1.heap.size) (#[.string (qs (T.c k)),.slice (some fa) P.n fcap]) 182) ⟨(HX1.out.alloc _),(HBp_1.out.alloc _),(Blk.nw (#[.string (qs (T.c k)),.slice (some fa) P.n fcap]) 182)⟩ ?_;rintro w2 ⟨e2,bBp_2,bB0_2⟩;have HX2:=Hi28 e2;have HBp_2:=Hi28 bBp_2;have HB0_2:=Hi28 bB0_2;have HGEB0:Hid (w.heap.size<=w1.heap.size):=Hi28 (HX1.out.size);clear e2 bBp_2 bB0_2 cl_k___2 cl_k___2___1;have cp_1:=HBp_2.out.cell (1) HP0.out.2.1;have cb_k:=keepA HX2.out (HCb_k.out);go_wp2_with fail;refine (slack_c (n:=P.n) p (T.b k) true _ (HBp_2.out) HP0.out.1 (by have:=h1p.out;simp;omega)).mono ?_;rintro e _ ⟨rfl,rfl⟩;clear cp_1 cb_k;have c0_1:=HB0_2.out.cell 1 rfl;have cf_at_:=keepA HX2.out (HCf.out);go_wp2_with fail;refine (rsign_c (T.f k at_) _).mono ?_;rintro e _ ⟨rfl,rfl⟩;clear c0_1 cf_at_;go_wp2_with fail;go_roundw
     case rel=>exact ⟨k+1,by go_num,by rw [lv_skip HSK.out],by rw [lv_skip HSK.out],by omega,Hi28 HX2.out⟩
     case measure=>simp [intOf];omega
   ·have h1p:=Hi28 h1;have HSK:Hid (¬ P.n<=T.b k∨0<=T.f k at_):=Hi28 (Or.inl h1);clear h1;go_upto_region 6 with fail
    refine wp_name (fun W=>Ext w W/\Blk W (p) (CP) 185/\Blk W (w1.heap.size) (#[.string (qs (T.c k)),.slice (some fa) P.n fcap]) 182) ⟨(HX1.out.alloc _),(HBp_1.out.alloc _),(Blk.nw (#[.string (qs (T.c k)),.slice (some fa) P.n fcap]) 182)⟩ ?_;rintro w2 ⟨e2,bBp_2,bB0_2⟩;have HX2:=Hi28 e2;have HBp_2:=Hi28 bBp_2;have HB0_2:=Hi28 bB0_2;have HGEB0:Hid (w.heap.size<=w1.heap.size):=Hi28 (HX1.out.size);clear e2 bBp_2 bB0_2 cl_k___2 cl_k___2___1;have cp_1:=HBp_2.out.cell (1) HP0.out.2.1;have cb_k:=keepA HX2.out (HCb_k.out);go_wp2_with fail;refine (slack_c (n:=P.n) p (T.b k) false _ (HBp_2.out) HP0.out.1 (by have:=h1p.out;simp;omega)).mono ?_;rintro e _ ⟨rfl,rfl⟩;clear cp_1 cb_k;go_wp2_with fail;go_roundw
    case rel=>exact ⟨k+1,by go_num,by rw [lv_skip HSK.out],by rw [lv_skip HSK.out],by omega,Hi28 HX2.out⟩
    case measure=>simp [intOf];omega
  ·have hk2:k=P.m:=by omega
   have hge:¬ (k:Int)<((P.m:Nat):Int):=by omega
   go_wp2;go_ret;exact ⟨rfl,HX1.out⟩
def Mkf (w:World) (n:Nat) (g:Nat->Value) (t:TypeId) (e:Ending) (w':World):Prop:=∃ (k:Nat) (C:Array Value),e = .returned (.slice (some ⟨k,0,none⟩) n n)/\Ext w w'/\w.heap.size<=k/\Blk w' k C t/\∀ j,j<n->C[j]?=some (g j)
def Mka (w:World) (n:Nat) (g:Nat->Value) (t:TypeId) (e:Ending) (w':World):Prop:=∃ (k:Nat) (C:Array Value),e = .returned (.agg #[.slice (some ⟨k,0,none⟩) n n])/\Ext w w'/\w.heap.size<=k/\Blk w' k C t/\∀ j,j<n->C[j]?=some (g j)
section
variable {P:LP} {T:Tab} {k d row at_ q:Nat} {s:Rat} {gl:Nat->Rat} {C:Array Value}
theorem cell_upd {n d:Nat} {u:Value} {f f':Nat->Value} (h:∀ j,j<n->C[j]?=some (f j)) (hu:d<n->f' d=u) (hf:∀ j,j<n->j≠d->f' j=f j) (j:Nat) (hj:j<n):(C.setIfInBounds d u)[j]?=some (f' j):=by
 by_cases e:j=d
 ·subst e;rw [hu hj];exact set_at (h j hj)
 ·rw [set_ne (Ne.symm e) (h j hj),hf j hj e]
theorem pt_skip (hb:P.n<=T.b k) (h:∀ j,j<P.n->C[j]?=some (.string (qs (P.pt T k j)))) (j:Nat) (hj:j<P.n):C[j]?=some (.string (qs (P.pt T (k+1) j))):=by
 rw [LP.pt,if_neg (by omega)];exact h j hj
theorem pt_set (hb:T.b k<P.n) (h:∀ j,j<P.n->C[j]?=some (.string (qs (P.pt T k j)))):∀ j,j<P.n->(C.setIfInBounds (T.b k) (.string (qs (T.c k))))[j]?=some (.string (qs (P.pt T (k+1) j))) :=
 cell_upd h (fun _=>by rw [LP.pt,if_pos rfl]) (fun j _ hj=>by rw [LP.pt,if_neg (fun e=>hj e.symm)])
theorem dl_skip {m:Nat} (hb:T.o k<P.n) (h:∀ j,j<m->C[j]?=some (.string (qs (P.dl T gl k j)))) (j:Nat) (hj:j<m):C[j]?=some (.string (qs (P.dl T gl (k+1) j))):=by
 rw [LP.dl,if_neg (by omega)];exact h j hj
theorem dl_set {m:Nat} (hd:T.o k=P.n+d) (h:∀ j,j<m->C[j]?=some (.string (qs (P.dl T gl k j)))):∀ j,j<m->(C.setIfInBounds d (.string (qs (gl k))))[j]?=some (.string (qs (P.dl T gl (k+1) j))) :=
 cell_upd h (fun _=>by rw [LP.dl,if_pos hd]) (fun j _ hj=>by rw [LP.dl,if_neg (fun e=>hj (by omega))])
theorem dl_qb (hq:1<=q) (h:∀ j,j<P.n->QB q (gl j)):∀ k i,k<=P.n->QB q (P.dl T gl k i)
 | 0,_,_=>QB0.mono hq
 | k+1,i,hk=>by rw [LP.dl];exact qb_ite (h k (by omega)) (dl_qb hq h k i (by omega))
theorem neg_set {m:Nat} {f:Nat->Rat} (hk:k<m) (h:∀ j,j<m->C[j]?=some (.string (qs (if j<k then -f j else f j)))):∀ j,j<m->(C.setIfInBounds k (.string (qs (-f k))))[j]?=some (.string (qs (if j<k+1 then -f j else f j))) :=
 cell_upd h (fun _=>by rw [if_pos (Nat.lt_succ_self k)]) (fun j _ hj=>by
  by_cases h1:j<k
  ·rw [if_pos h1,if_pos (by omega)]
  ·rw [if_neg h1,if_neg (by omega)])
theorem ref_set (hd:T.b row=P.n+d) (hk:k=P.m) (h:∀ j,j<P.m->C[j]?=some (.string (qs (if j<k then -P.dl T (T.f row) P.n j else P.dl T (T.f row) P.n j)))) :
    ∀ j,j<P.m->(C.setIfInBounds d (.string ⟨#[49]⟩))[j]?=some (.string (qs (P.ref T row j))) :=
 cell_upd h (fun _=>by rw [LP.ref,if_pos hd,qs_one]) (fun j hj hne=>by rw [LP.ref,if_neg (fun e=>hne (by omega)),if_pos (by omega)])
theorem ry_no (hb:P.n<=T.o at_) (h:∀ j,j<P.n->C[j]?=some (.string ⟨#[48]⟩)) (j:Nat) (hj:j<P.n):C[j]?=some (.string (qs (P.ry T s at_ 0 j))):=by
 rw [LP.ry,if_neg (by omega),qs_zero];exact h j hj
theorem ry_yes {z:Rat} {bs:ByteArray} (hs:s=z) (hz:qs z=bs) (h:∀ j,j<P.n->C[j]?=some (.string ⟨#[48]⟩)):∀ j,j<P.n->(C.setIfInBounds (T.o at_) (.string bs))[j]?=some (.string (qs (P.ry T s at_ 0 j))) :=
 cell_upd (f:=fun _ => .string ⟨#[48]⟩) h (fun _=>by rw [LP.ry,if_pos rfl,hs,hz]) (fun j _ hj=>by rw [LP.ry,if_neg (fun e=>hj e.symm),qs_zero])
theorem ry_skip (hb:P.n<=T.b k) (h:∀ j,j<P.n->C[j]?=some (.string (qs (P.ry T s at_ k j)))) (j:Nat) (hj:j<P.n):C[j]?=some (.string (qs (P.ry T s at_ (k+1) j))):=by
 rw [LP.ry,if_neg (by omega)];exact h j hj
theorem ry_set (h:∀ j,j<P.n->C[j]?=some (.string (qs (P.ry T s at_ k j)))):∀ j,j<P.n->(C.setIfInBounds (T.b k) (.string (qs (s*T.f k at_))))[j]?=some (.string (qs (P.ry T s at_ (k+1) j))) :=
 cell_upd h (fun _=>by rw [LP.ry,if_pos rfl]) (fun j _ hj=>by rw [LP.ry,if_neg (fun e=>hj e.symm)])
end
def sgr (x:Rat):Rat:=if 0<x then -1 else 1
theorem rmul_1 (s x:Rat) {m:Nat} (w:World) (g:Gd w) (hs:s=1) (qb:QB m x) (hm:m<=3000):Calls Tryz.prog 116 #[.string ⟨#[49]⟩,.string (qs x)] w (Ret w (.string (qs (s*x)))):=by
 have h:=rmul_c 1 x w g QB1 qb (by omega) hm;rw [qs_one] at h;rw [hs];exact h
theorem rmul_m1 (s x:Rat) {m:Nat} (w:World) (g:Gd w) (hs:s=-1) (qb:QB m x) (hm:m<=3000):Calls Tryz.prog 116 #[.string ⟨#[45,49]⟩,.string (qs x)] w (Ret w (.string (qs (s*x)))):=by
 have h:=rmul_c (-1) x w g QB1.neg qb (by omega) hm;rw [qs_m1] at h;rw [hs];exact h
theorem point_c (P:LP) (T:Tab) (p:Nat) (vb vl vo vw:Value) (vf:Nat->Value) (w:World) {q:Nat} (g:Gd w) (hT:TR P T w p vb vl vo vw vf) (hn:P.n<=1000) (hm:P.m<=1000):Calls Tryz.prog 126 #[.pointer (some ⟨p,0,none⟩)] w (Mkf w P.n (fun j => .string (qs (P.pt T P.m j))) 34):=by
 have HG:=Hi28 g;clear g;have HQc:Hid True:=Hi28 trivial;obtain ⟨CP,b1,p0⟩:=hT.tab;obtain ⟨bo,bc,rfl,zb1,zb2,hb⟩:=hT.b;obtain ⟨lo_,lc,rfl,zl1,zl2,hl⟩:=hT.l;obtain ⟨oo,oc,rfl,zo1,zo2,ho⟩:=hT.o;obtain ⟨wo,wcap,rfl,zw1,zw2,hw⟩:=hT.wf;have HF:=Hi28 hT.f;have HTR:=Hi28 hT;have HBp:=Hi28 b1;have HP0:Hid (_/\_/\_/\_/\_/\_):=Hi28 p0;have HRB:=Hi28 hb;have HRL:=Hi28 hl;have HRO:=Hi28 ho;have HRW:=Hi28 hw;clear b1 p0 hb hl ho hw hT zb1 zb2 zl1 zl2 zo1 zo2 zw1 zw2;go_enter Tryz.func126,Tryz.ntmps126;have cp_0:=HBp.out.cell (0) HP0.out.1;go_wp2_with fail;refine (zeros_c P.n (by omega) _).mono ?_;rintro e w1 ⟨kz,CZ,rfl,e1,g_,b_,c_⟩;have HNBpBz:Hid (p≠kz):=Hi28 (Nat.ne_of_lt (Nat.lt_of_lt_of_le HBp.out.lt g_));have HGEBz:Hid (w.heap.size<=kz):=Hi28 (Nat.le_trans (Ext.refl w).size g_);have HX1:Hid (Ext w w1):=Hi28 ((Ext.refl w).trans e1);have HBp_1:=Hi28 (HBp.out.ext e1);clear e1 cp_0;have HBz_1:=Hi28 b_;have HCBz:=Hi28 c_;clear g_ b_ c_;have cp_1:=HBp_1.out.cell (1) HP0.out.2.1;go_wp2_with fail;clear cp_1;go_loopw [16] (fun x0_ wx=>∃ k:Nat,x0_ = .int .i64 k/\k<=P.m/\Hid (Ext w wx/\(∃ CK,Blk wx kz CK 34/\∀ j,j<P.n->CK[j]?=some (.string (qs (P.pt T k j)))))) (fun x0_ _=>P.m-(intOf x0_).toNat)
 case atStart=>exact ⟨0,rfl,Nat.zero_le _,Hi28 ⟨HX1.out,⟨_,HBz_1.out,fun j hj=>by rw [LP.pt,qs_zero];exact HCBz.out j hj⟩⟩⟩
 case round =>
  rename World=>w2
  obtain ⟨k,rfl,hkk,HH⟩:=hrel;have HX2:=Hi28 HH.out.1;have HBp_2:=Hi28 (HBp.out.ext HX2.out);obtain ⟨CK,a1_,a2_⟩:=HH.out.2;have HBz_2:=Hi28 a1_;have HCK:=Hi28 a2_;clear a1_ a2_;clear HH;by_cases hlt:k<P.m
  ·have hlt2:(k:Int)<((P.m:Nat):Int):=by omega
   obtain ⟨ba,rfl,zb_⟩:=HRB.out k hlt;have HCb_k:=Hi28 zb_;clear zb_;have cb_k:=keepA HX2.out (HCb_k.out);by_cases h1:P.n<=T.b k
   ·have h1p:=Hi28 h1;clear h1;go_wp2_with fail;refine (slack_c (n:=P.n) p (T.b k) true _ (HBp_2.out) HP0.out.1 (by have:=h1p.out;simp;omega)).mono ?_;rintro e _ ⟨rfl,rfl⟩;clear cb_k;go_wp2_with fail;go_roundw
    case rel=>exact ⟨k+1,by go_num,by omega,Hi28 ⟨HX2.out,⟨_,HBz_2.out,pt_skip h1p.out HCK.out⟩⟩⟩
    case measure=>simp [intOf];omega
   ·have h1p:=Hi28 h1;clear h1;have hb2:((T.b k:Nat):Int)<((P.n:Nat):Int):=by have:=h1p.out;omega
    obtain ⟨la,rfl,zl_,zm_⟩:=HRL.out k hlt;have HCl_k:=Hi28 zl_;have HCm_k:=Hi28 zm_;clear zl_ zm_;go_wp2_with fail;refine (slack_c (n:=P.n) p (T.b k) false _ (HBp_2.out) HP0.out.1 (by have:=h1p.out;simp;omega)).mono ?_;rintro e _ ⟨rfl,rfl⟩;clear cb_k;have cp_2:=HBp_2.out.cell (2) HP0.out.2.2.1;have cl_k___2:=keepA HX2.out (HCl_k.out);have cz_T_b_k:=HBz_2.out.cell (T.b k) (HCK.out (T.b k) (by have:=h1p.out;omega));have fz_T_b_k:=HBz_2.out.free (T.b k);go_wp2_with fail;go_roundw
    case rel=>exact ⟨k+1,by go_num,by omega,Hi28 ⟨(HX2.out.setCell HGEBz.out _),⟨_,(HBz_2.out.set (T.b k) (.string (qs (T.c k)))),pt_set (by have:=h1p.out;omega) HCK.out⟩⟩⟩
    case measure=>simp [intOf];omega
  ·have hk2:k=P.m:=by omega
   have hge:¬ (k:Int)<((P.m:Nat):Int):=by omega
   go_wp2;go_ret;exact ⟨kz,CK,rfl,HX2.out,HGEBz.out,HBz_2.out,fun j hj=>by rw [← hk2];exact HCK.out j hj⟩
theorem dual_c (P:LP) (T:Tab) (p:Nat) (vb vl vo vw:Value) (vf:Nat->Value) (w:World) (cb:ByteArray) (vg:Value) (gl:Nat->Rat) (g:Gd w) (hT:TR P T w p vb vl vo vw vf) (hg:Rq w vg P.n gl) (hol:∀ j,j<P.n->T.o j<P.n+P.m) (hn:P.n<=1000) (hm:P.m<=1000):Calls Tryz.prog 128 #[.pointer (some ⟨p,0,none⟩),.agg #[.string cb,vg],.int .i64 (P.m:Int)] w (Mkf w P.m (fun j => .string (qs (P.dl T gl P.n j))) 34):=by
 have HG:=Hi28 g;have HOL:=Hi28 hol;clear g hol;have HQc:Hid True:=Hi28 trivial;obtain ⟨CP,b1,p0⟩:=hT.tab;obtain ⟨bo,bc,rfl,zb1,zb2,hb⟩:=hT.b;obtain ⟨lo_,lc,rfl,zl1,zl2,hl⟩:=hT.l;obtain ⟨oo,oc,rfl,zo1,zo2,ho⟩:=hT.o;obtain ⟨wo,wcap,rfl,zw1,zw2,hw⟩:=hT.wf;have HF:=Hi28 hT.f;have HTR:=Hi28 hT;have HBp:=Hi28 b1;have HP0:Hid (_/\_/\_/\_/\_/\_):=Hi28 p0;have HRB:=Hi28 hb;have HRL:=Hi28 hl;have HRO:=Hi28 ho;have HRW:=Hi28 hw;clear b1 p0 hb hl ho hw hT zb1 zb2 zl1 zl2 zo1 zo2 zw1 zw2;obtain ⟨go_,gcap,rfl,zg1,zg2,hgg⟩:=hg;have HRG:=Hi28 hgg;clear zg1 zg2 hgg;go_enter Tryz.func128,Tryz.ntmps128;go_wp2_with fail;refine (zeros_c P.m (by omega) _).mono ?_;rintro e w1 ⟨kz,CZ,rfl,e1,g_,b_,c_⟩;have HNBpBz:Hid (p≠kz):=Hi28 (Nat.ne_of_lt (Nat.lt_of_lt_of_le (HBp.out.alloc _).lt g_));have HNB0Bz:Hid (w.heap.size≠kz):=Hi28 (Nat.ne_of_lt (Nat.lt_of_lt_of_le (Blk.nw (#[.string cb,.slice go_ P.n gcap]) 182).lt g_));have HGEBz:Hid (w.heap.size<=kz):=Hi28 (Nat.le_trans ((Ext.refl w).alloc _).size g_);have HX1:Hid (Ext w w1):=Hi28 (((Ext.refl w).alloc _).trans e1);have HBp_1:Hid (Blk w1 (p) (CP) 185):=Hi28 (((HBp.out.alloc _)).ext e1);have HB0_1:Hid (Blk w1 (w.heap.size) (#[.string cb,.slice go_ P.n gcap]) 182):=Hi28 (((Blk.nw (#[.string cb,.slice go_ P.n gcap]) 182)).ext e1);have HGEB0:Hid (w.heap.size<=w.heap.size):=Hi28 (Nat.le_refl _);clear e1;have HBz_1:=Hi28 b_;have HCBz:=Hi28 c_;clear g_ b_ c_;have cp_3:=HBp_1.out.cell (3) HP0.out.2.2.2.1;go_wp2_with fail;clear cp_3;go_loopw [17] (fun x0_ wx=>∃ k:Nat,x0_ = .int .i64 k/\k<=P.n/\Hid (Ext w wx/\Blk wx (w.heap.size) (#[.string cb,.slice go_ P.n gcap]) 182/\(∃ CK,Blk wx kz CK 34/\∀ j,j<P.m->CK[j]?=some (.string (qs (P.dl T gl k j)))))) (fun x0_ _=>P.n-(intOf x0_).toNat)
 case atStart=>exact ⟨0,rfl,Nat.zero_le _,Hi28 ⟨HX1.out,HB0_1.out,⟨_,HBz_1.out,fun j hj=>by rw [LP.dl,qs_zero];exact HCBz.out j hj⟩⟩⟩
 case round =>
  rename World=>w2
  obtain ⟨k,rfl,hkk,HH⟩:=hrel;have HX2:=Hi28 HH.out.1;have HBp_2:=Hi28 (HBp.out.ext HX2.out);have HB0_2:=Hi28 HH.out.2.1;obtain ⟨CK,a1_,a2_⟩:=HH.out.2.2;have HBz_2:=Hi28 a1_;have HCK:=Hi28 a2_;clear a1_ a2_;clear HH;by_cases hlt:k<P.n
  ·have hlt2:(k:Int)<((P.n:Nat):Int):=by omega
   obtain ⟨oa,rfl,zo_⟩:=HRO.out k hlt;have HCo_k:=Hi28 zo_;clear zo_;have co_k:=keepA HX2.out (HCo_k.out);by_cases h1:P.n<=T.o k
   ·have h1p:=Hi28 h1;clear h1;obtain ⟨d,hd⟩:∃ d,T.o k=P.n+d:=⟨T.o k-P.n,by have:=h1p.out;omega⟩
    have hdm:d<P.m:=by have:=HOL.out k hlt;omega
    have hs_:((T.o k:Nat):Int)-((P.n:Nat):Int)=((d:Nat):Int):=by omega
    have hd2:(d:Int)<((P.m:Nat):Int):=by omega
    have HD:=Hi28 hd;clear hd;obtain ⟨ga,rfl,zg_⟩:=HRG.out k hlt;have HCg:=Hi28 zg_;clear zg_;go_wp2_with fail;refine (slack_c (n:=P.n) p (T.o k) true _ (HBp_2.out) HP0.out.1 (by have:=h1p.out;simp;omega)).mono ?_;rintro e _ ⟨rfl,rfl⟩;clear co_k;go_wp2_with fail;refine region_e [.val (.slice (some ⟨kz,0,none⟩) P.m P.m),.val (.int .i64 (T.o k:Int)),.val (.pointer (some ⟨p,0,none⟩)),.val (.pointer (some ⟨p,0,none⟩)),.val (.pointer (some ⟨p,0,none⟩)),.val (.int .i64 (P.n:Int)),.val (.int .i64 (d:Int)),.val (.pointer (some ⟨w.heap.size,1,none⟩)),.val (.slice (some ga) P.n gcap),.val (.int .i64 (k:Int)),.val (.pointer (some (ga.add k))),.val (.string (qs (gl k))),.val (.pointer (some ⟨kz,d,none⟩)),.eff] (fun L g W=>(if L 13=true then Blk W (kz) ((CK).setIfInBounds d (.string (qs (gl k)))) 34 else Blk W (kz) (CK) 34)) (S:=fun k=>k=kz) (by kernel_rfl) (by kernel_rfl) (by kernel_rfl) (Mv.refl HX2.out (fun k h=>(fun e=>Nat.le_trans (show w.heap.size<=kz from HGEBz.out) (Nat.le_of_eq e.symm)) h)) ?_ ?_ ?_ ?_ (fun gv_ w3 hm_ he_=>?_)
    ·exact fun gz_=>(by rw [if_neg (by decide)];exact HBz_2.out.drew)
    ·exact fun L g W W1 h e=>ite_ext (h) (fun h=>h.ext e) (fun h=>h.ext e)
    ·intro i v L g W hi h;have n13_:i≠13:=fun e=>by subst e;exact absurd (show false=true from hi) (by decide)
     simp only [up_ne n13_,ug_ne n13_];exact h
    ·skip
     refine RI 7 (.slice (some ⟨kz,0,none⟩) P.m P.m)<|RI 9 (.int .i64 (T.o k:Int))<|RI 0 (.pointer (some ⟨p,0,none⟩))<|R1 2<|R1 3<|J2 (fun hs_=>hs_.val 4) (fun hs_=>(hs_.mv.blk HBp_2.out (fun h=>((show p≠kz from HNBpBz.out)) h)).cell (0) HP0.out.1) ?_;refine RV (fun A_ hs_ K_ hK_=>?_) ?_;· have q26_:=hs_.val 1;have q30_:=hs_.val 5;go_simp;try go_bits;exact fin_ hK_
     refine RI 4 (.pointer (some ⟨w.heap.size,0,none⟩))<|J2 (fun hs_=>hs_.val 7) (fun hs_=>(hs_.mv.blk HB0_2.out (fun h=>((show w.heap.size≠kz from HNB0Bz.out)) h)).cell 1 rfl)<|RI 8 (.int .i64 (k:Int))<|R2 8 9<|J2 (fun hs_=>hs_.val 10) (fun hs_=>keepA hs_.mv.ext (HCg.out))<|R2 0 6 ?_;refine RnEL.cons (fun L_ g_ A_ W_ hs_=>?_) ?_
     ·have q37_:=hs_.val 12;have q36_:=hs_.val 11;refine RnE.eff fun K_ hK_=>?_;have n_:=hs_.not;have e_:=hs_.e;rw [if_neg (by rw [n_];decide)] at e_;have c_0:=e_.cell (d) (HCK.out d hdm);have f_0:=e_.free d;have HE_:=Hi28 e_;have HM_:=Hi28 hs_.mv;have HEE_:=Hi28 hs_.e;clear e_ n_;go_simp;exact hK_.out undef _ (HM_.out.setCell (Or.inl (rfl)) _) (by rw [up_at,if_pos rfl];exact (HE_.out.set d _))
     exact RnEL.nil
    simp only [fse,Ke.value,puts,Act.put,List.setIfInBounds_toArray,List.set_cons_zero,List.set_cons_succ];have HX3:Hid (Ext w w3):=Hi28 hm_.ext;have HBp_3:=Hi28 (hm_.blk HBp_2.out (fun h=>((show p≠kz from HNBpBz.out)) h));have HB0_3:=Hi28 (hm_.blk HB0_2.out (fun h=>((show w.heap.size≠kz from HNB0Bz.out)) h));have HBz_3:Hid (Blk w3 (kz) ((CK).setIfInBounds d (.string (qs (gl k)))) 34):=Hi28 (by have h_:=he_;rw [if_pos rfl] at h_;exact h_);clear hm_ he_;go_wp2_with fail;go_roundw
    case rel=>exact ⟨k+1,by go_num,by omega,Hi28 ⟨HX3.out,HB0_3.out,⟨_,HBz_3.out,dl_set HD.out HCK.out⟩⟩⟩
    case measure=>simp [intOf];omega
   ·have h1p:=Hi28 h1;clear h1;go_wp2_with fail;refine (slack_c (n:=P.n) p (T.o k) false _ (HBp_2.out) HP0.out.1 (by have:=h1p.out;simp;omega)).mono ?_;rintro e _ ⟨rfl,rfl⟩;clear co_k;go_wp2_with fail;go_roundw
    case rel=>exact ⟨k+1,by go_num,by omega,Hi28 ⟨HX2.out,HB0_2.out,⟨_,HBz_2.out,dl_skip (by have:=h1p.out;omega) HCK.out⟩⟩⟩
    case measure=>simp [intOf];omega
  ·have hk2:k=P.n:=by omega
   have hge:¬ (k:Int)<((P.n:Nat):Int):=by omega
   go_wp2;go_ret;exact ⟨kz,CK,rfl,HX2.out,HGEBz.out,HBz_2.out,fun j hj=>by rw [← hk2];exact HCK.out j hj⟩
theorem refutation_c (P:LP) (T:Tab) (p:Nat) (vb vl vo vw:Value) (vf:Nat->Value) (w:World) (row:Nat) {q:Nat} (g:Gd w) (hT:TR P T w p vb vl vo vw vf) (hrow:row<P.m) (hsl:P.n<=T.b row) (hbl:T.b row<P.n+P.m) (hol:∀ j,j<P.n->T.o j<P.n+P.m) (hn:P.n<=1000) (hm:P.m<=1000) (Q:TQ P T q) (hq1:1<=q) (hq2:q<=400):Calls Tryz.prog 124 #[.pointer (some ⟨p,0,none⟩),.int .i64 (row:Int),.int .i64 (P.m:Int)] w (Mka w P.m (fun j => .string (qs (P.ref T row j))) 34):=by
 have HG:=Hi28 g;have HROW:=Hi28 hrow;have HSL:=Hi28 hsl;have HBL:=Hi28 hbl;have HOL:=Hi28 hol;clear g hrow hsl hbl hol;have HQc:=Hi28 Q.c;have HQf:=Hi28 Q.f;clear Q;obtain ⟨CP,b1,p0⟩:=hT.tab;obtain ⟨bo,bc,rfl,zb1,zb2,hb⟩:=hT.b;obtain ⟨lo_,lc,rfl,zl1,zl2,hl⟩:=hT.l;obtain ⟨oo,oc,rfl,zo1,zo2,ho⟩:=hT.o;obtain ⟨wo,wcap,rfl,zw1,zw2,hw⟩:=hT.wf;have HF:=Hi28 hT.f;have HTR:=Hi28 hT;have HBp:=Hi28 b1;have HP0:Hid (_/\_/\_/\_/\_/\_):=Hi28 p0;have HRB:=Hi28 hb;have HRL:=Hi28 hl;have HRO:=Hi28 ho;have HRW:=Hi28 hw;clear b1 p0 hb hl ho hw hT zb1 zb2 zl1 zl2 zo1 zo2 zw1 zw2;have hr2:(row:Int)<(P.m:Int):=by have:=HROW.out;omega
 go_enter Tryz.func124,Tryz.ntmps124;go_upto_region 1 with fail
 refine wp_name (fun W=>Ext w W/\Blk W (p) (CP) 185/\Blk W (w.heap.size) (#[.slice none 0 0]) 36) ⟨((Ext.refl w).alloc _),(HBp.out.alloc _),(Blk.nw (#[.slice none 0 0]) 36)⟩ ?_;rintro w1 ⟨e1,bBp_1,bB0_1⟩;have HX1:=Hi28 e1;have HBp_1:=Hi28 bBp_1;have HB0_1:=Hi28 bB0_1;have HGEB0:Hid (w.heap.size<=w.heap.size):=Hi28 (Nat.le_refl _);clear e1 bBp_1 bB0_1;obtain ⟨la,rfl,zl_,zm_⟩:=HRL.out row HROW.out;have HCl_row:=Hi28 zl_;have HCm_row:=Hi28 zm_;clear zl_ zm_;have cp_2:=HBp_1.out.cell (2) HP0.out.2.2.1;have cl_row___2:=keepA HX1.out (HCl_row.out);have cl_row___2___1:=keepA HX1.out (HCm_row.out);go_wp2_with fail;refine (dual_c P T p _ _ _ _ _ _ _ (vf row) (T.f row) (HG.out.ext (HX1.out)) (HTR.out.ext HX1.out) ((HF.out row HROW.out).ext HX1.out) HOL.out hn hm).mono ?_;rintro e w2 ⟨kz,CZ,rfl,e2,g_,b_,c_⟩;have HNBpBz:Hid (p≠kz):=Hi28 (Nat.ne_of_lt (Nat.lt_of_lt_of_le HBp_1.out.lt g_));have HNB0Bz:Hid (w.heap.size≠kz):=Hi28 (Nat.ne_of_lt (Nat.lt_of_lt_of_le HB0_1.out.lt g_));have HGEBz:Hid (w.heap.size<=kz):=Hi28 (Nat.le_trans HX1.out.size g_);have HX2:=Hi28 (HX1.out.trans e2);have HBp_2:=Hi28 (HBp_1.out.ext e2);have HB0_2:=Hi28 (HB0_1.out.ext e2);clear e2 cp_2 cl_row___2 cl_row___2___1;have HBz_2:=Hi28 b_;have HCBz:=Hi28 c_;clear g_ b_ c_;go_wp2_with fail;go_loopw [22] (fun x0_ wx=>∃ k:Nat,x0_ = .int .i64 k/\k<=P.m/\Hid (Ext w wx/\Blk wx (w.heap.size) (#[.slice none 0 0]) 36/\(∃ CK,Blk wx kz CK 34/\∀ j,j<P.m->CK[j]?=some (.string (qs (if j<k then -P.dl T (T.f row) P.n j else P.dl T (T.f row) P.n j)))))) (fun x0_ _=>P.m-(intOf x0_).toNat)
 case atStart=>exact ⟨0,rfl,Nat.zero_le _,Hi28 ⟨HX2.out,HB0_2.out,⟨_,HBz_2.out,fun j hj=>by rw [if_neg (Nat.not_lt_zero _)];exact HCBz.out j hj⟩⟩⟩
 case round =>
  rename World=>w3
  obtain ⟨k,rfl,hkk,HH⟩:=hrel;have HX3:=Hi28 HH.out.1;have HBp_3:=Hi28 (HBp.out.ext HX3.out);have HB0_3:=Hi28 HH.out.2.1;obtain ⟨CK,a1_,a2_⟩:=HH.out.2.2;have HBz_3:=Hi28 a1_;have HCK:=Hi28 a2_;clear a1_ a2_;clear HH;by_cases hlt:k<P.m
  ·have hlt2:(k:Int)<((P.m:Nat):Int):=by omega
   have zk_:=HCK.out k hlt;rw [if_neg (by omega)] at zk_;have HZk:=Hi28 zk_;clear zk_;have cz_k:=HBz_3.out.cell (k) HZk.out;go_wp2_with fail;refine (rneg_c (P.dl T (T.f row) P.n k) _ (dl_qb hq1 (HQf.out row HROW.out) P.n k (Nat.le_refl _)) (by omega)).mono ?_;rintro e w4 ⟨rfl,e4⟩;have HX4:=Hi28 (HX3.out.trans e4);have HBp_4:=Hi28 (HBp_3.out.ext e4);have HB0_4:=Hi28 (HB0_3.out.ext e4);have HBz_4:=Hi28 (HBz_3.out.ext e4);clear e4 cz_k;have cz_k:=HBz_4.out.cell (k) HZk.out;have fz_k:=HBz_4.out.free k;go_wp2_with fail;go_roundw
   case rel=>exact ⟨k+1,by go_num,by omega,Hi28 ⟨(HX4.out.setCell HGEBz.out _),(HB0_4.out.other (a:=⟨kz,k,none⟩) _ (HNB0Bz.out)),⟨_,(HBz_4.out.set k (.string (qs (-P.dl T (T.f row) P.n k)))),neg_set hlt HCK.out⟩⟩⟩
   case measure=>simp [intOf];omega
  ·have hk2:k=P.m:=by omega
   have hge:¬ (k:Int)<((P.m:Nat):Int):=by omega
   obtain ⟨d,hd⟩:∃ d,T.b row=P.n+d:=⟨T.b row-P.n,by have:=HSL.out;omega⟩
   have hdm:d<P.m:=by have:=HBL.out;omega
   have hs_:((T.b row:Nat):Int)-((P.n:Nat):Int)=((d:Nat):Int):=by omega
   have hd2:(d:Int)<((P.m:Nat):Int):=by omega
   have HD:=Hi28 hd;clear hd;obtain ⟨ba,rfl,zb_⟩:=HRB.out row HROW.out;have HCb_row:=Hi28 zb_;clear zb_;go_wp2_with fail;refine region_e [.val (.slice (some ⟨kz,0,none⟩) P.m P.m),.val (.pointer (some ⟨p,0,none⟩)),.val (.pointer (some ⟨p,0,none⟩)),.val (.pointer (some ⟨p,1,none⟩)),.val (.slice (some ba) P.m bc),.val (.int .i64 (row:Int)),.val (.pointer (some (ba.add row))),.val (.int .i64 (T.b row:Int)),.val (.pointer (some ⟨p,0,none⟩)),.val (.pointer (some ⟨p,0,none⟩)),.val (.pointer (some ⟨p,0,none⟩)),.val (.int .i64 (P.n:Int)),.val (.int .i64 (d:Int)),.val (.pointer (some ⟨kz,d,none⟩)),.eff] (fun L g W=>(if L 14=true then Blk W (kz) ((CK).setIfInBounds d (.string ⟨#[49]⟩)) 34 else Blk W (kz) (CK) 34)) (S:=fun k=>k=kz) (by kernel_rfl) (by kernel_rfl) (by kernel_rfl) (Mv.refl HX3.out (fun k h=>(fun e=>Nat.le_trans (show w.heap.size<=kz from HGEBz.out) (Nat.le_of_eq e.symm)) h)) ?_ ?_ ?_ ?_ (fun gv_ w4 hm_ he_=>?_)
   ·exact fun gz_=>(by rw [if_neg (by decide)];exact HBz_3.out.drew)
   ·exact fun L g W W1 h e=>ite_ext (h) (fun h=>h.ext e) (fun h=>h.ext e)
   ·intro i v L g W hi h;have n14_:i≠14:=fun e=>by subst e;exact absurd (show false=true from hi) (by decide)
    simp only [up_ne n14_,ug_ne n14_];exact h
   ·skip
    refine RI 7 (.slice (some ⟨kz,0,none⟩) P.m P.m)<|RI 0 (.pointer (some ⟨p,0,none⟩))<|R1 1<|R1 2<|J2 (fun hs_=>hs_.val 3) (fun hs_=>(hs_.mv.blk HBp_3.out (fun h=>((show p≠kz from HNBpBz.out)) h)).cell (1) HP0.out.2.1)<|RI 1 (.int .i64 (row:Int))<|R2 4 5<|J2 (fun hs_=>hs_.val 6) (fun hs_=>keepA hs_.mv.ext (HCb_row.out))<|RI 0 (.pointer (some ⟨p,0,none⟩))<|R1 8<|R1 9<|J2 (fun hs_=>hs_.val 10) (fun hs_=>(hs_.mv.blk HBp_3.out (fun h=>((show p≠kz from HNBpBz.out)) h)).cell (0) HP0.out.1) ?_;refine RV (fun A_ hs_ K_ hK_=>?_) ?_;· have q40_:=hs_.val 7;have q44_:=hs_.val 11;go_simp;try go_bits;exact fin_ hK_
    refine R2 0 12 ?_;refine RnEL.cons (fun L_ g_ A_ W_ hs_=>?_) ?_
    ·have q46_:=hs_.val 13;refine RnE.eff fun K_ hK_=>?_;have n_:=hs_.not;have e_:=hs_.e;rw [if_neg (by rw [n_];decide)] at e_;have c_0:=e_.cell (d) (HCK.out d hdm);have f_0:=e_.free d;have HE_:=Hi28 e_;have HM_:=Hi28 hs_.mv;have HEE_:=Hi28 hs_.e;clear e_ n_;go_simp;exact hK_.out undef _ (HM_.out.setCell (Or.inl (rfl)) _) (by rw [up_at,if_pos rfl];exact (HE_.out.set d _))
    exact RnEL.nil
   simp only [fse,Ke.value,puts,Act.put,List.setIfInBounds_toArray,List.set_cons_zero,List.set_cons_succ];have HX4:Hid (Ext w w4):=Hi28 hm_.ext;have HBp_4:=Hi28 (hm_.blk HBp_3.out (fun h=>((show p≠kz from HNBpBz.out)) h));have HB0_4:=Hi28 (hm_.blk HB0_3.out (fun h=>((show w.heap.size≠kz from HNB0Bz.out)) h));have HBz_4:Hid (Blk w4 (kz) ((CK).setIfInBounds d (.string ⟨#[49]⟩)) 34):=Hi28 (by have h_:=he_;rw [if_pos rfl] at h_;exact h_);clear hm_ he_;have c0_0:=HB0_4.out.cell 0 rfl;have f0_0:=HB0_4.out.free 0;go_wp2_with fail;refine wp_name (fun W=>Ext w W/\Blk W (p) (CP) 185/\Blk W (w.heap.size) (#[.slice (some ⟨kz,0,none⟩) P.m P.m]) 36/\Blk W (kz) ((CK).setIfInBounds d (.string ⟨#[49]⟩)) 34) ⟨(HX4.out.setCell (HGEB0.out) _),(HBp_4.out.other (a:=⟨w.heap.size,0,none⟩) _ (by have:=HBp.out.lt;first|omega|(simp only [];omega)|(simp;omega))),(HB0_4.out.set 0 (.slice (some ⟨kz,0,none⟩) P.m P.m)),(HBz_4.out.other (a:=⟨w.heap.size,0,none⟩) _ (fun h=>HNB0Bz.out h.symm))⟩ ?_;rintro w5 ⟨e5,bBp_5,bB0_5,bBz_5⟩;have HX5:=Hi28 e5;have HBp_5:=Hi28 bBp_5;have HB0_5:=Hi28 bB0_5;have HBz_5:=Hi28 bBz_5;clear e5 bBp_5 bB0_5 bBz_5 c0_0 f0_0;have gB0_0:=HB0_5.out.cell 0 rfl;refine bodyPost_ret (v:=.agg #[.slice (some ⟨kz,0,none⟩) P.m P.m]) (by simp [results,Tryz.results124,go_sem,gB0_0]) rfl ⟨kz,_,rfl,HX5.out,HGEBz.out,HBz_5.out,ref_set HD.out hk2 HCK.out⟩
theorem ray_c (P:LP) (T:Tab) (p:Nat) (vb vl vo vw:Value) (vf:Nat->Value) (w:World) (at_:Nat) {q:Nat} (g:Gd w) (hT:TR P T w p vb vl vo vw vf) (hat:at_<P.n) (hn:P.n<=1000) (hm:P.m<=1000) (Q:TQ P T q) (hq1:1<=q) (hq2:q<=400):Calls Tryz.prog 127 #[.pointer (some ⟨p,0,none⟩),.int .i64 (at_:Int)] w (Mkf w P.n (fun j => .string (qs (P.ry T (sgr (T.wf at_)) at_ P.m j))) 34):=by
 have HG:=Hi28 g;have HAT:=Hi28 hat;clear g hat;have HQc:=Hi28 Q.c;have HQf:=Hi28 Q.f;have HQw:=Hi28 Q.wf;clear Q;obtain ⟨CP,b1,p0⟩:=hT.tab;obtain ⟨bo,bc,rfl,zb1,zb2,hb⟩:=hT.b;obtain ⟨lo_,lc,rfl,zl1,zl2,hl⟩:=hT.l;obtain ⟨oo,oc,rfl,zo1,zo2,ho⟩:=hT.o;obtain ⟨wo,wcap,rfl,zw1,zw2,hw⟩:=hT.wf;have HF:=Hi28 hT.f;have HTR:=Hi28 hT;have HBp:=Hi28 b1;have HP0:Hid (_/\_/\_/\_/\_/\_):=Hi28 p0;have HRB:=Hi28 hb;have HRL:=Hi28 hl;have HRO:=Hi28 ho;have HRW:=Hi28 hw;clear b1 p0 hb hl ho hw hT zb1 zb2 zl1 zl2 zo1 zo2 zw1 zw2;have hat2:(at_:Int)<(P.n:Int):=by have:=HAT.out;omega
 go_enter Tryz.func127,Tryz.ntmps127;go_upto_region 2 with fail
 obtain ⟨wa,rfl,zw_⟩:=HRW.out at_ HAT.out;have HCw:=Hi28 zw_;clear zw_;by_cases h2:0<T.wf at_
 ·have h3:=sgn_pos h2;obtain ⟨s,es⟩:∃ s:Rat,s=-1:=⟨_,rfl⟩
  have HS:=Hi28 es;have HSG:Hid (s=sgr (T.wf at_)):=Hi28 (by rw [sgr,if_pos h2];exact es);clear es h2;have cp_5:=HBp.out.cell (5) HP0.out.2.2.2.2.2;have cw_at_:=keepA (Ext.refl w) (HCw.out);go_wp2_with fail;refine (rsign_c (T.wf at_) _).mono ?_;rintro e _ ⟨rfl,rfl⟩;clear cp_5 cw_at_;have cp_0:=HBp.out.cell (0) HP0.out.1;go_wp2_with fail;refine (zeros_c P.n (by omega) _).mono ?_;rintro e w1 ⟨kz,CZ,rfl,e1,g_,b_,c_⟩;have HNBpBz:Hid (p≠kz):=Hi28 (Nat.ne_of_lt (Nat.lt_of_lt_of_le HBp.out.lt g_));have HGEBz:Hid (w.heap.size<=kz):=Hi28 (Nat.le_trans (Ext.refl w).size g_);have HX1:Hid (Ext w w1):=Hi28 ((Ext.refl w).trans e1);have HBp_1:=Hi28 (HBp.out.ext e1);clear e1 cp_0;have HBz_1:=Hi28 b_;have HCBz:=Hi28 c_;clear g_ b_ c_;go_upto_region 5 with fail
  obtain ⟨oa,rfl,zo_⟩:=HRO.out at_ HAT.out;have HCo_at_:=Hi28 zo_;clear zo_;have cp_3:=HBp_1.out.cell (3) HP0.out.2.2.2.1;have co_at_:=keepA HX1.out (HCo_at_.out);by_cases h1:P.n<=T.o at_
  ·have h1p:=Hi28 h1;clear h1;have HC1:Hid (∀ j,j<P.n->CZ[j]?=some (.string (qs (P.ry T s at_ 0 j)))):=Hi28 (ry_no h1p.out HCBz.out);clear HCBz;go_wp2_with fail;refine (slack_c (n:=P.n) p (T.o at_) true _ (HBp_1.out) HP0.out.1 (by have:=h1p.out;simp;omega)).mono ?_;rintro e _ ⟨rfl,rfl⟩;clear cp_3 co_at_;have cp_1:=HBp_1.out.cell (1) HP0.out.2.1;go_wp2_with fail;clear cp_1;go_wp2_with fail;go_loopw [45] (fun x0_ wx=>∃ k:Nat,x0_ = .int .i64 k/\k<=P.m/\Hid (Ext w wx/\(∃ CK,Blk wx kz CK 34/\∀ j,j<P.n->CK[j]?=some (.string (qs (P.ry T s at_ k j)))))) (fun x0_ _=>P.m-(intOf x0_).toNat)
   case atStart=>exact ⟨0,rfl,Nat.zero_le _,Hi28 ⟨HX1.out,⟨_,HBz_1.out,HC1.out⟩⟩⟩
   case round =>
    rename World=>w2
    obtain ⟨k,rfl,hkk,HH⟩:=hrel;have HX2:=Hi28 HH.out.1;have HBp_2:=Hi28 (HBp.out.ext HX2.out);obtain ⟨CK,a1_,a2_⟩:=HH.out.2;have HBz_2:=Hi28 a1_;have HCK:=Hi28 a2_;clear a1_ a2_;clear HH;by_cases hlt:k<P.m
    ·have hlt2:(k:Int)<((P.m:Nat):Int):=by omega
     obtain ⟨ba,rfl,zb_⟩:=HRB.out k hlt;have HCb_k:=Hi28 zb_;clear zb_;have cb_k:=keepA HX2.out (HCb_k.out);by_cases h4:P.n<=T.b k
     ·have h4p:=Hi28 h4;clear h4;go_wp2_with fail;refine (slack_c (n:=P.n) p (T.b k) true _ (HBp_2.out) HP0.out.1 (by have:=h4p.out;simp;omega)).mono ?_;rintro e _ ⟨rfl,rfl⟩;clear cb_k;go_wp2_with fail;go_roundw
      case rel=>exact ⟨k+1,by go_num,by omega,Hi28 ⟨HX2.out,⟨_,HBz_2.out,ry_skip h4p.out HCK.out⟩⟩⟩
      case measure=>simp [intOf];omega
     ·have h4p:=Hi28 h4;clear h4;have hb3:((T.b k:Nat):Int)<((P.n:Nat):Int):=by have:=h4p.out;omega
      obtain ⟨la,rfl,zl_,zm_⟩:=HRL.out k hlt;have HCl_k:=Hi28 zl_;have HCm_k:=Hi28 zm_;clear zl_ zm_;obtain ⟨fo,fcap,ef_,_,_,hf_⟩:=HF.out k hlt;obtain ⟨fa,rfl,zf_⟩:=hf_ at_ HAT.out;rw [ef_] at HCm_k;have HCf:=Hi28 zf_;clear zf_ hf_ ef_;go_wp2_with fail;refine (slack_c (n:=P.n) p (T.b k) false _ (HBp_2.out) HP0.out.1 (by have:=h4p.out;simp;omega)).mono ?_;rintro e _ ⟨rfl,rfl⟩;clear cb_k;have cp_2:=HBp_2.out.cell (2) HP0.out.2.2.1;have cl_k___2___1:=keepA HX2.out (HCm_k.out);have cf_at_:=keepA HX2.out (HCf.out);go_wp2_with fail;refine (rmul_m1 s (T.f k at_) _ (HG.out.ext (HX2.out)) HS.out (HQf.out k hlt at_ HAT.out) (by omega)).mono ?_;rintro e w3 ⟨rfl,e3⟩;have HX3:=Hi28 (HX2.out.trans e3);have HBp_3:=Hi28 (HBp_2.out.ext e3);have HBz_3:=Hi28 (HBz_2.out.ext e3);clear e3 cp_2 cl_k___2___1 cf_at_;have cz_T_b_k:=HBz_3.out.cell (T.b k) (HCK.out (T.b k) (by have:=h4p.out;omega));have fz_T_b_k:=HBz_3.out.free (T.b k);go_wp2_with fail;go_roundw
      case rel=>exact ⟨k+1,by go_num,by omega,Hi28 ⟨(HX3.out.setCell HGEBz.out _),⟨_,(HBz_3.out.set (T.b k) (.string (qs (s*T.f k at_)))),ry_set HCK.out⟩⟩⟩
      case measure=>simp [intOf];omega
    ·have hk2:k=P.m:=by omega
     have hge:¬ (k:Int)<((P.m:Nat):Int):=by omega
     go_wp2;go_ret;exact ⟨kz,CK,rfl,HX2.out,HGEBz.out,HBz_2.out,fun j hj=>by rw [← hk2,← HSG.out];exact HCK.out j hj⟩
  ·have h1p:=Hi28 h1;clear h1;have hb2:((T.o at_:Nat):Int)<((P.n:Nat):Int):=by have:=h1p.out;omega
   have HC1:Hid (∀ j,j<P.n->(CZ.setIfInBounds (T.o at_) (.string ⟨#[45,49]⟩))[j]?=some (.string (qs (P.ry T s at_ 0 j)))):=Hi28 (ry_yes HS.out qs_m1 HCBz.out);go_wp2_with fail;refine (slack_c (n:=P.n) p (T.o at_) false _ (HBp_1.out) HP0.out.1 (by have:=h1p.out;simp;omega)).mono ?_;rintro e _ ⟨rfl,rfl⟩;clear cp_3 co_at_;have cz_T_o_at_:=HBz_1.out.cell (T.o at_) (HCBz.out (T.o at_) (by have:=h1p.out;omega));have fz_T_o_at_:=HBz_1.out.free (T.o at_);go_upto_region 8 with fail
   refine wp_name (fun W=>Ext w W/\Blk W (p) (CP) 185/\Blk W (kz) ((CZ).setIfInBounds (T.o at_) (.string ⟨#[45,49]⟩)) 34) ⟨(HX1.out.setCell HGEBz.out _),(HBp_1.out.other (a:=⟨kz,T.o at_,none⟩) _ (HNBpBz.out)),(HBz_1.out.set (T.o at_) (.string ⟨#[45,49]⟩))⟩ ?_;rintro w2 ⟨e2,bBp_2,bBz_2⟩;have HX2:=Hi28 e2;have HBp_2:=Hi28 bBp_2;have HBz_2:=Hi28 bBz_2;clear e2 bBp_2 bBz_2 cz_T_o_at_ fz_T_o_at_;have cp_1:=HBp_2.out.cell (1) HP0.out.2.1;go_wp2_with fail;clear cp_1;go_wp2_with fail;go_loopw [45] (fun x0_ wx=>∃ k:Nat,x0_ = .int .i64 k/\k<=P.m/\Hid (Ext w wx/\(∃ CK,Blk wx kz CK 34/\∀ j,j<P.n->CK[j]?=some (.string (qs (P.ry T s at_ k j)))))) (fun x0_ _=>P.m-(intOf x0_).toNat)
   case atStart=>exact ⟨0,rfl,Nat.zero_le _,Hi28 ⟨HX2.out,⟨_,HBz_2.out,HC1.out⟩⟩⟩
   case round =>
    rename World=>w3
    obtain ⟨k,rfl,hkk,HH⟩:=hrel;have HX3:=Hi28 HH.out.1;have HBp_3:=Hi28 (HBp.out.ext HX3.out);obtain ⟨CK,a1_,a2_⟩:=HH.out.2;have HBz_3:=Hi28 a1_;have HCK:=Hi28 a2_;clear a1_ a2_;clear HH;by_cases hlt:k<P.m
    ·have hlt2:(k:Int)<((P.m:Nat):Int):=by omega
     obtain ⟨ba,rfl,zb_⟩:=HRB.out k hlt;have HCb_k:=Hi28 zb_;clear zb_;have cb_k:=keepA HX3.out (HCb_k.out);by_cases h4:P.n<=T.b k
     ·have h4p:=Hi28 h4;clear h4;go_wp2_with fail;refine (slack_c (n:=P.n) p (T.b k) true _ (HBp_3.out) HP0.out.1 (by have:=h4p.out;simp;omega)).mono ?_;rintro e _ ⟨rfl,rfl⟩;clear cb_k;go_wp2_with fail;go_roundw
      case rel=>exact ⟨k+1,by go_num,by omega,Hi28 ⟨HX3.out,⟨_,HBz_3.out,ry_skip h4p.out HCK.out⟩⟩⟩
      case measure=>simp [intOf];omega
     ·have h4p:=Hi28 h4;clear h4;have hb3:((T.b k:Nat):Int)<((P.n:Nat):Int):=by have:=h4p.out;omega
      obtain ⟨la,rfl,zl_,zm_⟩:=HRL.out k hlt;have HCl_k:=Hi28 zl_;have HCm_k:=Hi28 zm_;clear zl_ zm_;obtain ⟨fo,fcap,ef_,_,_,hf_⟩:=HF.out k hlt;obtain ⟨fa,rfl,zf_⟩:=hf_ at_ HAT.out;rw [ef_] at HCm_k;have HCf:=Hi28 zf_;clear zf_ hf_ ef_;go_wp2_with fail;refine (slack_c (n:=P.n) p (T.b k) false _ (HBp_3.out) HP0.out.1 (by have:=h4p.out;simp;omega)).mono ?_;rintro e _ ⟨rfl,rfl⟩;clear cb_k;have cp_2:=HBp_3.out.cell (2) HP0.out.2.2.1;have cl_k___2___1:=keepA HX3.out (HCm_k.out);have cf_at_:=keepA HX3.out (HCf.out);go_wp2_with fail;refine (rmul_m1 s (T.f k at_) _ (HG.out.ext (HX3.out)) HS.out (HQf.out k hlt at_ HAT.out) (by omega)).mono ?_;rintro e w4 ⟨rfl,e4⟩;have HX4:=Hi28 (HX3.out.trans e4);have HBp_4:=Hi28 (HBp_3.out.ext e4);have HBz_4:=Hi28 (HBz_3.out.ext e4);clear e4 cp_2 cl_k___2___1 cf_at_;have cz_T_b_k:=HBz_4.out.cell (T.b k) (HCK.out (T.b k) (by have:=h4p.out;omega));have fz_T_b_k:=HBz_4.out.free (T.b k);go_wp2_with fail;go_roundw
      case rel=>exact ⟨k+1,by go_num,by omega,Hi28 ⟨(HX4.out.setCell HGEBz.out _),⟨_,(HBz_4.out.set (T.b k) (.string (qs (s*T.f k at_)))),ry_set HCK.out⟩⟩⟩
      case measure=>simp [intOf];omega
    ·have hk2:k=P.m:=by omega
     have hge:¬ (k:Int)<((P.m:Nat):Int):=by omega
     go_wp2;go_ret;exact ⟨kz,CK,rfl,HX3.out,HGEBz.out,HBz_3.out,fun j hj=>by rw [← hk2,← HSG.out];exact HCK.out j hj⟩
 ·have h3:=sgn_notpos h2;obtain ⟨s,es⟩:∃ s:Rat,s=1:=⟨_,rfl⟩
  have HS:=Hi28 es;have HSG:Hid (s=sgr (T.wf at_)):=Hi28 (by rw [sgr,if_neg h2];exact es);clear es h2;have cp_5:=HBp.out.cell (5) HP0.out.2.2.2.2.2;have cw_at_:=keepA (Ext.refl w) (HCw.out);go_wp2_with fail;refine (rsign_c (T.wf at_) _).mono ?_;rintro e _ ⟨rfl,rfl⟩;clear cp_5 cw_at_;have cp_0:=HBp.out.cell (0) HP0.out.1;go_wp2_with fail;refine (zeros_c P.n (by omega) _).mono ?_;rintro e w1 ⟨kz,CZ,rfl,e1,g_,b_,c_⟩;have HNBpBz:Hid (p≠kz):=Hi28 (Nat.ne_of_lt (Nat.lt_of_lt_of_le HBp.out.lt g_));have HGEBz:Hid (w.heap.size<=kz):=Hi28 (Nat.le_trans (Ext.refl w).size g_);have HX1:Hid (Ext w w1):=Hi28 ((Ext.refl w).trans e1);have HBp_1:=Hi28 (HBp.out.ext e1);clear e1 cp_0;have HBz_1:=Hi28 b_;have HCBz:=Hi28 c_;clear g_ b_ c_;go_upto_region 5 with fail
  obtain ⟨oa,rfl,zo_⟩:=HRO.out at_ HAT.out;have HCo_at_:=Hi28 zo_;clear zo_;have cp_3:=HBp_1.out.cell (3) HP0.out.2.2.2.1;have co_at_:=keepA HX1.out (HCo_at_.out);by_cases h1:P.n<=T.o at_
  ·have h1p:=Hi28 h1;clear h1;have HC1:Hid (∀ j,j<P.n->CZ[j]?=some (.string (qs (P.ry T s at_ 0 j)))):=Hi28 (ry_no h1p.out HCBz.out);clear HCBz;go_wp2_with fail;refine (slack_c (n:=P.n) p (T.o at_) true _ (HBp_1.out) HP0.out.1 (by have:=h1p.out;simp;omega)).mono ?_;rintro e _ ⟨rfl,rfl⟩;clear cp_3 co_at_;have cp_1:=HBp_1.out.cell (1) HP0.out.2.1;go_wp2_with fail;clear cp_1;go_wp2_with fail;go_loopw [45] (fun x0_ wx=>∃ k:Nat,x0_ = .int .i64 k/\k<=P.m/\Hid (Ext w wx/\(∃ CK,Blk wx kz CK 34/\∀ j,j<P.n->CK[j]?=some (.string (qs (P.ry T s at_ k j)))))) (fun x0_ _=>P.m-(intOf x0_).toNat)
   case atStart=>exact ⟨0,rfl,Nat.zero_le _,Hi28 ⟨HX1.out,⟨_,HBz_1.out,HC1.out⟩⟩⟩
   case round =>
    rename World=>w2
    obtain ⟨k,rfl,hkk,HH⟩:=hrel;have HX2:=Hi28 HH.out.1;have HBp_2:=Hi28 (HBp.out.ext HX2.out);obtain ⟨CK,a1_,a2_⟩:=HH.out.2;have HBz_2:=Hi28 a1_;have HCK:=Hi28 a2_;clear a1_ a2_;clear HH;by_cases hlt:k<P.m
    ·have hlt2:(k:Int)<((P.m:Nat):Int):=by omega
     obtain ⟨ba,rfl,zb_⟩:=HRB.out k hlt;have HCb_k:=Hi28 zb_;clear zb_;have cb_k:=keepA HX2.out (HCb_k.out);by_cases h4:P.n<=T.b k
     ·have h4p:=Hi28 h4;clear h4;go_wp2_with fail;refine (slack_c (n:=P.n) p (T.b k) true _ (HBp_2.out) HP0.out.1 (by have:=h4p.out;simp;omega)).mono ?_;rintro e _ ⟨rfl,rfl⟩;clear cb_k;go_wp2_with fail;go_roundw
      case rel=>exact ⟨k+1,by go_num,by omega,Hi28 ⟨HX2.out,⟨_,HBz_2.out,ry_skip h4p.out HCK.out⟩⟩⟩
      case measure=>simp [intOf];omega
     ·have h4p:=Hi28 h4;clear h4;have hb3:((T.b k:Nat):Int)<((P.n:Nat):Int):=by have:=h4p.out;omega
      obtain ⟨la,rfl,zl_,zm_⟩:=HRL.out k hlt;have HCl_k:=Hi28 zl_;have HCm_k:=Hi28 zm_;clear zl_ zm_;obtain ⟨fo,fcap,ef_,_,_,hf_⟩:=HF.out k hlt;obtain ⟨fa,rfl,zf_⟩:=hf_ at_ HAT.out;rw [ef_] at HCm_k;have HCf:=Hi28 zf_;clear zf_ hf_ ef_;go_wp2_with fail;refine (slack_c (n:=P.n) p (T.b k) false _ (HBp_2.out) HP0.out.1 (by have:=h4p.out;simp;omega)).mono ?_;rintro e _ ⟨rfl,rfl⟩;clear cb_k;have cp_2:=HBp_2.out.cell (2) HP0.out.2.2.1;have cl_k___2___1:=keepA HX2.out (HCm_k.out);have cf_at_:=keepA HX2.out (HCf.out);go_wp2_with fail;refine (rmul_1 s (T.f k at_) _ (HG.out.ext (HX2.out)) HS.out (HQf.out k hlt at_ HAT.out) (by omega)).mono ?_;rintro e w3 ⟨rfl,e3⟩;have HX3:=Hi28 (HX2.out.trans e3);have HBp_3:=Hi28 (HBp_2.out.ext e3);have HBz_3:=Hi28 (HBz_2.out.ext e3);clear e3 cp_2 cl_k___2___1 cf_at_;have cz_T_b_k:=HBz_3.out.cell (T.b k) (HCK.out (T.b k) (by have:=h4p.out;omega));have fz_T_b_k:=HBz_3.out.free (T.b k);go_wp2_with fail;go_roundw
      case rel=>exact ⟨k+1,by go_num,by omega,Hi28 ⟨(HX3.out.setCell HGEBz.out _),⟨_,(HBz_3.out.set (T.b k) (.string (qs (s*T.f k at_)))),ry_set HCK.out⟩⟩⟩
      case measure=>simp [intOf];omega
    ·have hk2:k=P.m:=by omega
     have hge:¬ (k:Int)<((P.m:Nat):Int):=by omega
     go_wp2;go_ret;exact ⟨kz,CK,rfl,HX2.out,HGEBz.out,HBz_2.out,fun j hj=>by rw [← hk2,← HSG.out];exact HCK.out j hj⟩
  ·have h1p:=Hi28 h1;clear h1;have hb2:((T.o at_:Nat):Int)<((P.n:Nat):Int):=by have:=h1p.out;omega
   have HC1:Hid (∀ j,j<P.n->(CZ.setIfInBounds (T.o at_) (.string ⟨#[49]⟩))[j]?=some (.string (qs (P.ry T s at_ 0 j)))):=Hi28 (ry_yes HS.out qs_one HCBz.out);go_wp2_with fail;refine (slack_c (n:=P.n) p (T.o at_) false _ (HBp_1.out) HP0.out.1 (by have:=h1p.out;simp;omega)).mono ?_;rintro e _ ⟨rfl,rfl⟩;clear cp_3 co_at_;have cz_T_o_at_:=HBz_1.out.cell (T.o at_) (HCBz.out (T.o at_) (by have:=h1p.out;omega));have fz_T_o_at_:=HBz_1.out.free (T.o at_);go_upto_region 8 with fail
   refine wp_name (fun W=>Ext w W/\Blk W (p) (CP) 185/\Blk W (kz) ((CZ).setIfInBounds (T.o at_) (.string ⟨#[49]⟩)) 34) ⟨(HX1.out.setCell HGEBz.out _),(HBp_1.out.other (a:=⟨kz,T.o at_,none⟩) _ (HNBpBz.out)),(HBz_1.out.set (T.o at_) (.string ⟨#[49]⟩))⟩ ?_;rintro w2 ⟨e2,bBp_2,bBz_2⟩;have HX2:=Hi28 e2;have HBp_2:=Hi28 bBp_2;have HBz_2:=Hi28 bBz_2;clear e2 bBp_2 bBz_2 cz_T_o_at_ fz_T_o_at_;have cp_1:=HBp_2.out.cell (1) HP0.out.2.1;go_wp2_with fail;clear cp_1;go_wp2_with fail;go_loopw [45] (fun x0_ wx=>∃ k:Nat,x0_ = .int .i64 k/\k<=P.m/\Hid (Ext w wx/\(∃ CK,Blk wx kz CK 34/\∀ j,j<P.n->CK[j]?=some (.string (qs (P.ry T s at_ k j)))))) (fun x0_ _=>P.m-(intOf x0_).toNat)
   case atStart=>exact ⟨0,rfl,Nat.zero_le _,Hi28 ⟨HX2.out,⟨_,HBz_2.out,HC1.out⟩⟩⟩
   case round =>
    rename World=>w3
    obtain ⟨k,rfl,hkk,HH⟩:=hrel;have HX3:=Hi28 HH.out.1;have HBp_3:=Hi28 (HBp.out.ext HX3.out);obtain ⟨CK,a1_,a2_⟩:=HH.out.2;have HBz_3:=Hi28 a1_;have HCK:=Hi28 a2_;clear a1_ a2_;clear HH;by_cases hlt:k<P.m
    ·have hlt2:(k:Int)<((P.m:Nat):Int):=by omega
     obtain ⟨ba,rfl,zb_⟩:=HRB.out k hlt;have HCb_k:=Hi28 zb_;clear zb_;have cb_k:=keepA HX3.out (HCb_k.out);by_cases h4:P.n<=T.b k
     ·have h4p:=Hi28 h4;clear h4;go_wp2_with fail;refine (slack_c (n:=P.n) p (T.b k) true _ (HBp_3.out) HP0.out.1 (by have:=h4p.out;simp;omega)).mono ?_;rintro e _ ⟨rfl,rfl⟩;clear cb_k;go_wp2_with fail;go_roundw
      case rel=>exact ⟨k+1,by go_num,by omega,Hi28 ⟨HX3.out,⟨_,HBz_3.out,ry_skip h4p.out HCK.out⟩⟩⟩
      case measure=>simp [intOf];omega
     ·have h4p:=Hi28 h4;clear h4;have hb3:((T.b k:Nat):Int)<((P.n:Nat):Int):=by have:=h4p.out;omega
      obtain ⟨la,rfl,zl_,zm_⟩:=HRL.out k hlt;have HCl_k:=Hi28 zl_;have HCm_k:=Hi28 zm_;clear zl_ zm_;obtain ⟨fo,fcap,ef_,_,_,hf_⟩:=HF.out k hlt;obtain ⟨fa,rfl,zf_⟩:=hf_ at_ HAT.out;rw [ef_] at HCm_k;have HCf:=Hi28 zf_;clear zf_ hf_ ef_;go_wp2_with fail;refine (slack_c (n:=P.n) p (T.b k) false _ (HBp_3.out) HP0.out.1 (by have:=h4p.out;simp;omega)).mono ?_;rintro e _ ⟨rfl,rfl⟩;clear cb_k;have cp_2:=HBp_3.out.cell (2) HP0.out.2.2.1;have cl_k___2___1:=keepA HX3.out (HCm_k.out);have cf_at_:=keepA HX3.out (HCf.out);go_wp2_with fail;refine (rmul_1 s (T.f k at_) _ (HG.out.ext (HX3.out)) HS.out (HQf.out k hlt at_ HAT.out) (by omega)).mono ?_;rintro e w4 ⟨rfl,e4⟩;have HX4:=Hi28 (HX3.out.trans e4);have HBp_4:=Hi28 (HBp_3.out.ext e4);have HBz_4:=Hi28 (HBz_3.out.ext e4);clear e4 cp_2 cl_k___2___1 cf_at_;have cz_T_b_k:=HBz_4.out.cell (T.b k) (HCK.out (T.b k) (by have:=h4p.out;omega));have fz_T_b_k:=HBz_4.out.free (T.b k);go_wp2_with fail;go_roundw
      case rel=>exact ⟨k+1,by go_num,by omega,Hi28 ⟨(HX4.out.setCell HGEBz.out _),⟨_,(HBz_4.out.set (T.b k) (.string (qs (s*T.f k at_)))),ry_set HCK.out⟩⟩⟩
      case measure=>simp [intOf];omega
    ·have hk2:k=P.m:=by omega
     have hge:¬ (k:Int)<((P.m:Nat):Int):=by omega
     go_wp2;go_ret;exact ⟨kz,CK,rfl,HX3.out,HGEBz.out,HBz_3.out,fun j hj=>by rw [← hk2,← HSG.out];exact HCK.out j hj⟩
theorem arr2 {a b:Value}:#[a] ++ #[b]=#[a,b]:=rfl
theorem arr3 {a b c:Value}:#[a] ++ #[b,c]=#[a,b,c]:=rfl
theorem TM.piv_ne {M:TM} {row kz n p m b H:Nat} (h:∀ k,M.S p m k->k≠b) (hb:b<H) (hk:H<=kz):∀ k,(M.piv row kz n).S p m k->k≠b:=fun k hs=>(TM.piv_S hs).elim (h k) (fun e=>by omega)
theorem GoodM.good {P:LP} {T:Tab} (h:GoodM P T):Good P T:=⟨h.inv,h.fz⟩
theorem row_ways (P:LP) (T:Tab):P.rowF T=-1∨∃ r:Nat,P.rowF T=(r:Int)/\r<P.m/\P.n<=T.b r/\T.c r<0:=by
 rcases rowF_spec P T with ⟨h1,_⟩|⟨r,h1,h2,h3,h4,_⟩
 ·exact Or.inl h1
 ·exact Or.inr ⟨r,h2,h1,h3,h4⟩
theorem at_ways (P:LP) (T:Tab) (r:Nat):P.atF T r=-1∨∃ a:Nat,P.atF T r=(a:Int)/\a<P.n/\T.f r a≠0:=by
 rcases atF_spec P T r with ⟨h1,_⟩|⟨a,h1,h2,_,h4,_⟩
 ·exact Or.inl h1
 ·exact Or.inr ⟨a,h2,h1,fun e=>by rw [e] at h4;exact absurd h4 (by decide)⟩
theorem u_ways (P:LP) (T:Tab):(∃ a:Nat,P.atU T=(a:Int)/\a<P.n/\T.o a<P.n/\T.wf a≠0)∨P.atU T=-1:=by
 rcases atU_spec P T with ⟨h1,_⟩|⟨r,h1,h2,h3,h4⟩
 ·exact Or.inr h1
 ·exact Or.inl ⟨r,h2,h1,h3,h4⟩
theorem m_ways (P:LP) (T:Tab):P.atM T=-1∨∃ a:Nat,P.atM T=(a:Int)/\a<P.n/\P.n<=T.o a/\T.wf a<0:=by
 rcases atM_spec P T with ⟨h1,_⟩|⟨r,h1,h2,h3,h4,_⟩
 ·exact Or.inl h1
 ·exact Or.inr ⟨r,h2,h1,h3,h4⟩
theorem lv_ways2 (P:LP) (T:Tab) (a:Nat):P.lv T a P.m=-1∨∃ r:Nat,P.lv T a P.m=(r:Int)/\r<P.m/\T.f r a≠0:=by
 rcases lv_spec P T a P.m with ⟨h1,_⟩|⟨r,h1,h2,_,h3,_⟩
 ·exact Or.inl h1
 ·exact Or.inr ⟨r,h2,h1,fun e=>by rw [e] at h3;exact absurd h3 (by decide)⟩
def FeasP (X:World) (P:LP) (p:Nat) (e:Ending) (w':World):Prop:=∃ (T:Tab) (M:TM),TA X P T p M w'/\Good P T/\Ext X w' /\
 ((e = .returned (.tuple #[.int .i64 0,.bool true])/\Pos P T)∨∃ r:Nat,e = .returned (.tuple #[.int .i64 (r:Int),.bool false])/\Bad P T r)
def MinP (X:World) (P:LP) (p:Nat) (e:Ending) (w':World):Prop:=∃ (T:Tab) (M:TM),TA X P T p M w'/\Good P T/\Ext X w' /\
 ((∃ a:Nat,e = .returned (.tuple #[.int .i64 (a:Int),.bool false])/\Pos P T/\a<P.n/\T.o a<P.n/\T.wf a≠0) ∨
  (e = .returned (.tuple #[.int .i64 0,.bool true])/\GoodM P T/\∀ j,j<P.n->P.n<=T.o j->0<=T.wf j) ∨
  (∃ a:Nat,e = .returned (.tuple #[.int .i64 (a:Int),.bool false])/\GoodM P T/\a<P.n/\P.n<=T.o a/\T.wf a<0/\∀ i,i<P.m->P.n<=T.b i->0<=T.f i a))
section
variable {P:LP} {T:Tab} {p xb:Nat} {M:TM} {w X:World} {tx:TypeId} {v:Int}
theorem least_f1_t (g:Gd w) (h:TA X P T p M w) (hv:P.rowF T=v) (bx:Blk w xb #[.pointer (some ⟨p,0,none⟩)] tx) (hm:P.m<=1000) :
    Calls Tryz.prog 201 #[M.vb P,.func (.func 202) #[] #[.pointer (some ⟨xb,0,none⟩)]] w (Ret w (.int .i64 v)):=by
 obtain ⟨ao,cap,e,_,_,hh⟩:=h.tr.b;rw [e,← hv];exact least_g _ _ _ _ _ w ao cap hh (fun W e k hk=>by rw [arr2];exact cl_f1 P T p _ _ _ _ _ W xb k _ tx _ (g.ext e) (h.tr.ext e) (bx.ext e) rfl hk rfl) (by omega) (fun _ _=>by kernel_rfl)
theorem least_f2_t {yb row:Nat} {ty:TypeId} (g:Gd w) (h:TA X P T p M w) (hv:P.atF T row=v) (bx:Blk w xb #[.pointer (some ⟨p,0,none⟩)] tx) (by_:Blk w yb #[.int .i64 (row:Int)] ty) (hr:row<P.m) (hm:P.n<=1000) :
    Calls Tryz.prog 201 #[M.vo P,.func (.func 203) #[] #[.pointer (some ⟨xb,0,none⟩),.pointer (some ⟨yb,0,none⟩)]] w (Ret w (.int .i64 v)):=by
 obtain ⟨ao,cap,e,_,_,hh⟩:=h.tr.o;rw [e,← hv];exact least_g _ _ _ _ _ w ao cap hh (fun W e k hk=>by rw [arr3];exact cl_f2 P T p _ _ _ _ _ W xb k _ tx yb row _ ty _ (g.ext e) (h.tr.ext e) (bx.ext e) rfl (by_.ext e) rfl hr hk rfl) (by omega) (fun _ _=>by kernel_rfl)
theorem least_m1_t (g:Gd w) (h:TA X P T p M w) (hv:P.atU T=v) (bx:Blk w xb #[.pointer (some ⟨p,0,none⟩)] tx) (hm:P.n<=1000) :
    Calls Tryz.prog 201 #[M.vo P,.func (.func 204) #[] #[.pointer (some ⟨xb,0,none⟩)]] w (Ret w (.int .i64 v)):=by
 obtain ⟨ao,cap,e,_,_,hh⟩:=h.tr.o;rw [e,← hv];exact least_g _ _ _ _ _ w ao cap hh (fun W e k hk=>by rw [arr2];exact cl_m1 P T p _ _ _ _ _ W xb k _ tx _ (g.ext e) (h.tr.ext e) (bx.ext e) rfl hk rfl) (by omega) (fun _ _=>by kernel_rfl)
theorem least_m2_t (g:Gd w) (h:TA X P T p M w) (hv:P.atM T=v) (bx:Blk w xb #[.pointer (some ⟨p,0,none⟩)] tx) (hm:P.n<=1000) :
    Calls Tryz.prog 201 #[M.vo P,.func (.func 205) #[] #[.pointer (some ⟨xb,0,none⟩)]] w (Ret w (.int .i64 v)):=by
 obtain ⟨ao,cap,e,_,_,hh⟩:=h.tr.o;rw [e,← hv];exact least_g _ _ _ _ _ w ao cap hh (fun W e k hk=>by rw [arr2];exact cl_m2 P T p _ _ _ _ _ W xb k _ tx _ (g.ext e) (h.tr.ext e) (bx.ext e) rfl hk rfl) (by omega) (fun _ _=>by kernel_rfl)
theorem slack_t (h:TA X P T p M w) (v:Nat) (r:Bool) (hr:decide (P.n<=v)=r):Calls Tryz.prog 198 #[.pointer (some ⟨p,0,none⟩),.int .i64 (v:Int)] w fun e w'=>e = .returned (.bool r)/\w=w' :=
 let ⟨_,a,b⟩:=h.mem.tab;slack_c p v r w a b.1 hr
theorem leave_t {q at_:Nat} (g:Gd w) (h:TA X P T p M w) (hv:P.lv T at_ P.m=v) (hat:at_<P.n) (hm:P.m<=1000) (Q:TQ P T q) (hq1:1<=q) (hq2:q<=400) :
    Calls Tryz.prog 206 #[.pointer (some ⟨p,0,none⟩),.int .i64 (at_:Int)] w (Ret w (.int .i64 v)):=by
 rw [← hv];exact leave_c P T p _ _ _ _ _ w at_ g h.tr hat hm Q hq1 hq2
end
theorem feasible_c (P:LP) (T:Tab) (p:Nat) (M:TM) (q:Nat) (X w:World) (g:Gd X) (hX:Ext X w) (hT:TA X P T p M w) (SZ:Szd P q) (hn:P.n<=1000) (hm:P.m<=1000) (hq1:1<=q) (hq2:q<=400) (hG:Good P T):Calls Tryz.prog 123 #[.pointer (some ⟨p,0,none⟩)] w (FeasP X P p):=by
 have HG:=Hi28 g;have HBT:=Hi28 hT;have HG0:=Hi28 hG;clear g hT hG;have HX0:Hid (Mv X w (fun k=>X.heap.size<=k) w):=Hi28 (Mv.refl hX (fun k h=>h));clear hX;obtain ⟨N,hN⟩:=feas_ends HG0.out;have HN:=Hi28 hN;clear hN;go_enter Tryz.func123,Tryz.ntmps123;go_wp2_with fail;have HNEBTB0:Hid (∀ q_,M.S p P.m q_->q_≠w.heap.size):=Hi28 (HBT.out.ne (by first|omega|(simp only [];omega)|(simp;omega)));have HNEBTB1:Hid (∀ q_,M.S p P.m q_->q_≠w.heap.size+1):=Hi28 (HBT.out.ne (by first|omega|(simp only [];omega)|(simp;omega)));refine wp_name (fun W=>Mv X w (fun k=>X.heap.size<=k) W/\TA X P T p M W/\Blk W (w.heap.size) (#[.pointer (some ⟨p,0,none⟩)]) 175/\Blk W (w.heap.size+1) (#[.int .i64 0]) 3) ⟨((HX0.out.alloc _).alloc _),((HBT.out.alloc _).alloc _),((Blk.nw (#[.pointer (some ⟨p,0,none⟩)]) 175).alloc _),(Blk.nw (#[.int .i64 0]) 3)⟩ ?_;rintro w1 ⟨e1,bBT_1,bB0_1,bB1_1⟩;have HX1:=Hi28 e1;have HBT_1:=Hi28 bBT_1;have HB0_1:=Hi28 bB0_1;have HB1_1:=Hi28 bB1_1;have HGEB0:Hid (w.heap.size<=w.heap.size):=Hi28 (Nat.le_refl _);have HGEB1:Hid (w.heap.size<=w.heap.size+1):=Hi28 (by omega);clear e1 bBT_1 bB0_1 bB1_1;go_loopg [3] N (fun gk x0_ wx=>x0_ = .bool false/\∃ (k:Nat) (M1:TM) (r_:Value),N<=k+gk/\Hid (Mv X w (fun k=>X.heap.size<=k) wx/\Blk wx (w.heap.size) #[.pointer (some ⟨p,0,none⟩)] 175/\Blk wx (w.heap.size+1) #[r_] 3/\TA X P (itr P.stepF k T) p M1 wx/\(∀ q,M1.S p P.m q->q≠w.heap.size/\q≠w.heap.size+1)))
 case atStart=>exact ⟨rfl,0,M,_,by omega,Hi28 ⟨HX1.out,HB0_1.out,HB1_1.out,HBT_1.out,fun q hq=>⟨(HNEBTB0.out) q hq,(HNEBTB1.out) q hq⟩⟩⟩
 case round =>
  rename World=>w2
  obtain ⟨rfl,k,M1,r_,hkN,HH⟩:=hrel;obtain ⟨T1,eT⟩:∃ T1,itr P.stepF k T=T1:=⟨_,rfl⟩
  rw [eT] at HH;have HT1:=Hi28 eT;clear eT;have HX2:=Hi28 HH.out.1;have HB0_2:=Hi28 HH.out.2.1;have HB1_2:=Hi28 HH.out.2.2.1;have HBT_2:=Hi28 HH.out.2.2.2.1;have HNE2B0:Hid (∀ q,M1.S p P.m q->q≠w.heap.size):=Hi28 (fun q hq=>(HH.out.2.2.2.2 q hq).1);have HNE2B1:Hid (∀ q,M1.S p P.m q->q≠w.heap.size+1):=Hi28 (fun q hq=>(HH.out.2.2.2.2 q hq).2);clear HH;have HGD:=Hi28 (HT1.out▸HG0.out.itF k:Good P T1);have HTQ:=Hi28 (SZ T1 HGD.out.inv);rcases row_ways P T1 with e1|⟨r,e1,hr,hb,hc⟩
  ·have HP:=Hi28 (rowF_neg (by omega:P.rowF T1<0));have HE:=Hi28 e1;clear e1;have c0_0:=HB0_2.out.cell 0 rfl;have cT_1:=HBT_2.out.c1;go_wp2_with fail;refine (least_f1_t (HG.out.ext (HX2.out.ext)) (HBT_2.out) HE.out (HB0_2.out) hm).mono ?_;rintro e w3 ⟨rfl,e3⟩;have HX3:=Hi28 (HX2.out.trans e3);have HBT_3:=Hi28 (HBT_2.out.ext e3);have HB0_3:=Hi28 (HB0_2.out.ext e3);have HB1_3:=Hi28 (HB1_2.out.ext e3);clear e3 c0_0 cT_1;have c1_0:=HB1_3.out.cell 0 rfl;have f1_0:=HB1_3.out.free 0;go_upto_region 2 with fail
   refine wp_name (fun W=>Mv X w (fun k=>X.heap.size<=k) W/\TA X P T1 p M1 W/\Blk W (w.heap.size) (#[.pointer (some ⟨p,0,none⟩)]) 175/\Blk W (w.heap.size+1) (#[.int .i64 (-1)]) 3) ⟨(HX3.out.setCell (Or.inr (HGEB1.out)) _),(HBT_3.out.other (a:=⟨w.heap.size+1,0,none⟩) _ (HNE2B1.out)),(HB0_3.out.other (a:=⟨w.heap.size+1,0,none⟩) _ (by first|omega|(simp only [];omega)|(simp;omega))),(HB1_3.out.set 0 (.int .i64 (-1)))⟩ ?_;rintro w4 ⟨e4,bBT_4,bB0_4,bB1_4⟩;have HX4:=Hi28 e4;have HBT_4:=Hi28 bBT_4;have HB0_4:=Hi28 bB0_4;have HB1_4:=Hi28 bB1_4;clear e4 bBT_4 bB0_4 bB1_4 c1_0 f1_0;have c1_0:=HB1_4.out.cell 0 rfl;have f1_0:=HB1_4.out.free 0;go_wp2_with fail;refine wp_name (fun W=>Mv X w (fun k=>X.heap.size<=k) W/\TA X P T1 p M1 W/\Blk W (w.heap.size) (#[.pointer (some ⟨p,0,none⟩)]) 175/\Blk W (w.heap.size+1) (#[.int .i64 0]) 3) ⟨(HX4.out.setCell (Or.inr (HGEB1.out)) _),(HBT_4.out.other (a:=⟨w.heap.size+1,0,none⟩) _ (HNE2B1.out)),(HB0_4.out.other (a:=⟨w.heap.size+1,0,none⟩) _ (by first|omega|(simp only [];omega)|(simp;omega))),(HB1_4.out.set 0 (.int .i64 0))⟩ ?_;rintro w5 ⟨e5,bBT_5,bB0_5,bB1_5⟩;have HX5:=Hi28 e5;have HBT_5:=Hi28 bBT_5;have HB0_5:=Hi28 bB0_5;have HB1_5:=Hi28 bB1_5;clear e5 bBT_5 bB0_5 bB1_5 c1_0 f1_0;have gB1_0:=HB1_5.out.cell 0 rfl;refine bodyPost_ret (v:=.tuple #[.int .i64 0,.bool true]) (by simp [results,Tryz.results123,go_sem,gB1_0]) rfl ⟨T1,M1,HBT_5.out,HGD.out,HX5.out.ext,Or.inl ⟨rfl,HP.out⟩⟩
  ·have HE:=Hi28 e1;clear e1;have HR:=Hi28 hr;have HB:=Hi28 hb;have HC:=Hi28 hc;clear hr hb hc;have hr0:¬ (r:Int)<0:=by omega
   have c0_0:=HB0_2.out.cell 0 rfl;have cT_1:=HBT_2.out.c1;go_wp2_with fail;refine (least_f1_t (HG.out.ext (HX2.out.ext)) (HBT_2.out) HE.out (HB0_2.out) hm).mono ?_;rintro e w3 ⟨rfl,e3⟩;have HX3:=Hi28 (HX2.out.trans e3);have HBT_3:=Hi28 (HBT_2.out.ext e3);have HB0_3:=Hi28 (HB0_2.out.ext e3);have HB1_3:=Hi28 (HB1_2.out.ext e3);clear e3 c0_0 cT_1;have c1_0:=HB1_3.out.cell 0 rfl;have f1_0:=HB1_3.out.free 0;go_upto_region 2 with fail
   refine wp_name (fun W=>Mv X w (fun k=>X.heap.size<=k) W/\TA X P T1 p M1 W/\Blk W (w.heap.size) (#[.pointer (some ⟨p,0,none⟩)]) 175/\Blk W (w.heap.size+1) (#[.int .i64 (r:Int)]) 3) ⟨(HX3.out.setCell (Or.inr (HGEB1.out)) _),(HBT_3.out.other (a:=⟨w.heap.size+1,0,none⟩) _ (HNE2B1.out)),(HB0_3.out.other (a:=⟨w.heap.size+1,0,none⟩) _ (by first|omega|(simp only [];omega)|(simp;omega))),(HB1_3.out.set 0 (.int .i64 (r:Int)))⟩ ?_;rintro w4 ⟨e4,bBT_4,bB0_4,bB1_4⟩;have HX4:=Hi28 e4;have HBT_4:=Hi28 bBT_4;have HB0_4:=Hi28 bB0_4;have HB1_4:=Hi28 bB1_4;clear e4 bBT_4 bB0_4 bB1_4 c1_0 f1_0;have c1_0:=HB1_4.out.cell 0 rfl;go_upto_region 4 with fail
   clear c1_0;rcases at_ways P T1 r with e2|⟨a,e2,ha,hf⟩
   ·have HBAD:=Hi28 (atF_neg HR.out HB.out HC.out (by omega:P.atF T1 r<0));have HE2:=Hi28 e2;clear e2;have c0_0:=HB0_4.out.cell 0 rfl;have cT_3:=HBT_4.out.c3;go_wp2_with fail;refine (least_f2_t (HG.out.ext (HX4.out.ext)) (HBT_4.out) HE2.out (HB0_4.out) (HB1_4.out) HR.out hn).mono ?_;rintro e w5 ⟨rfl,e5⟩;have HX5:=Hi28 (HX4.out.trans e5);have HBT_5:=Hi28 (HBT_4.out.ext e5);have HB0_5:=Hi28 (HB0_4.out.ext e5);have HB1_5:=Hi28 (HB1_4.out.ext e5);clear e5 c0_0 cT_3;have c1_0:=HB1_5.out.cell 0 rfl;have f1_0:=HB1_5.out.free 0;go_wp2_with fail;refine wp_name (fun W=>Mv X w (fun k=>X.heap.size<=k) W/\TA X P T1 p M1 W/\Blk W (w.heap.size) (#[.pointer (some ⟨p,0,none⟩)]) 175/\Blk W (w.heap.size+1) (#[.int .i64 (r:Int)]) 3) ⟨(HX5.out.setCell (Or.inr (HGEB1.out)) _),(HBT_5.out.other (a:=⟨w.heap.size+1,0,none⟩) _ (HNE2B1.out)),(HB0_5.out.other (a:=⟨w.heap.size+1,0,none⟩) _ (by first|omega|(simp only [];omega)|(simp;omega))),(HB1_5.out.set 0 (.int .i64 (r:Int)))⟩ ?_;rintro w6 ⟨e6,bBT_6,bB0_6,bB1_6⟩;have HX6:=Hi28 e6;have HBT_6:=Hi28 bBT_6;have HB0_6:=Hi28 bB0_6;have HB1_6:=Hi28 bB1_6;clear e6 bBT_6 bB0_6 bB1_6 c1_0 f1_0;have gB1_0:=HB1_6.out.cell 0 rfl;refine bodyPost_ret (v:=.tuple #[.int .i64 (r:Int),.bool false]) (by simp [results,Tryz.results123,go_sem,gB1_0]) rfl ⟨T1,M1,HBT_6.out,HGD.out,HX6.out.ext,Or.inr ⟨r,rfl,HBAD.out⟩⟩
   ·have HE2:=Hi28 e2;clear e2;have HA:=Hi28 ha;have HF0:=Hi28 hf;clear ha hf;have ha0:¬ (a:Int)<0:=by omega
    have HST:=Hi28 (stepF_at HE.out HE2.out);have HKN:Hid (k<N):=Hi28 (itr_lt (fun _ h=>stepF_halt h) HN.out (by rw [HT1.out];exact HST.out.1));have c0_0:=HB0_4.out.cell 0 rfl;have cT_3:=HBT_4.out.c3;go_wp2_with fail;refine (least_f2_t (HG.out.ext (HX4.out.ext)) (HBT_4.out) HE2.out (HB0_4.out) (HB1_4.out) HR.out hn).mono ?_;rintro e w5 ⟨rfl,e5⟩;have HX5:=Hi28 (HX4.out.trans e5);have HBT_5:=Hi28 (HBT_4.out.ext e5);have HB0_5:=Hi28 (HB0_4.out.ext e5);have HB1_5:=Hi28 (HB1_4.out.ext e5);clear e5 c0_0 cT_3;have c0_0:=HB0_5.out.cell 0 rfl;have c1_0:=HB1_5.out.cell 0 rfl;go_wp2_with fail;refine (pivot_t HG.out HX5.out.ext HBT_5.out HR.out HA.out HF0.out hn hm hq1 hq2 HTQ.out).mono ?_;rintro e w6 ⟨rfl,m_,kz,g_,t_⟩;have HX6:Hid (Mv X w (fun k=>X.heap.size<=k) w6):=Hi28 (HX5.out.comp m_ (fun k hk=>Or.inl (HBT_5.out.up k hk)));have HB0_6:Hid (Blk w6 (w.heap.size) (#[.pointer (some ⟨p,0,none⟩)]) 175):=Hi28 (m_.blk HB0_5.out (fun hk=>HNE2B0.out _ hk rfl));have HNPB0:Hid (∀ k,(M1.piv r kz P.n).S p P.m k->k≠w.heap.size):=Hi28 (TM.piv_ne HNE2B0.out HB0_5.out.lt g_);have HB1_6:Hid (Blk w6 (w.heap.size+1) (#[.int .i64 (r:Int)]) 3):=Hi28 (m_.blk HB1_5.out (fun hk=>HNE2B1.out _ hk rfl));have HNPB1:Hid (∀ k,(M1.piv r kz P.n).S p P.m k->k≠w.heap.size+1):=Hi28 (TM.piv_ne HNE2B1.out HB1_5.out.lt g_);have HBT_6:=Hi28 t_;clear m_ g_ t_ c0_0 c1_0;go_wp2_with fail;go_roundg (gk-1)
    case rel=>exact ⟨rfl,k+1,(M1.piv r kz P.n),_,by omega,Hi28 ⟨HX6.out,HB0_6.out,HB1_6.out,(by rw [itr,HT1.out,HST.out.2];exact HBT_6.out),fun q hq=>⟨(HNPB0.out) q hq,(HNPB1.out) q hq⟩⟩⟩
    case measure=>have:=HKN.out;omega
theorem minimize_c (P:LP) (T:Tab) (p:Nat) (M:TM) (q:Nat) (X w:World) (g:Gd X) (hX:Ext X w) (hT:TA X P T p M w) (SZ:Szd P q) (hn:P.n<=1000) (hm:P.m<=1000) (hq1:1<=q) (hq2:q<=400) (hG:Good P T) (hP:Pos P T):Calls Tryz.prog 125 #[.pointer (some ⟨p,0,none⟩)] w (MinP X P p):=by
 have HG:=Hi28 g;have HBT:=Hi28 hT;have HG0:=Hi28 hG;have HP0:=Hi28 hP;clear g hT hG hP;have HX0:Hid (Mv X w (fun k=>X.heap.size<=k) w):=Hi28 (Mv.refl hX (fun k h=>h));clear hX;go_enter Tryz.func125,Tryz.ntmps125;go_upto_region 1 with fail
 have HNEBTB0:Hid (∀ q_,M.S p P.m q_->q_≠w.heap.size):=Hi28 (HBT.out.ne (by first|omega|(simp only [];omega)|(simp;omega)));refine wp_name (fun W=>Mv X w (fun k=>X.heap.size<=k) W/\TA X P T p M W/\Blk W (w.heap.size) (#[.pointer (some ⟨p,0,none⟩)]) 175) ⟨(HX0.out.alloc _),(HBT.out.alloc _),(Blk.nw (#[.pointer (some ⟨p,0,none⟩)]) 175)⟩ ?_;rintro w1 ⟨e1,bBT_1,bB0_1⟩;have HX1:=Hi28 e1;have HBT_1:=Hi28 bBT_1;have HB0_1:=Hi28 bB0_1;have HGEB0:Hid (w.heap.size<=w.heap.size):=Hi28 (Nat.le_refl _);clear e1 bBT_1 bB0_1;rcases u_ways P T with ⟨a,e0,ha,ho,hw⟩|e0
 ·have HE0:=Hi28 e0;have HA:=Hi28 ha;have HO:=Hi28 ho;have HW:=Hi28 hw;clear e0 ha ho hw;have ha0:(0:Int)<=(a:Int):=by omega
  have c0_0:=HB0_1.out.cell 0 rfl;have cT_3:=HBT_1.out.c3;go_wp2_with fail;refine (least_m1_t (HG.out.ext (HX1.out.ext)) (HBT_1.out) HE0.out (HB0_1.out) hn).mono ?_;rintro e w2 ⟨rfl,e2⟩;have HX2:=Hi28 (HX1.out.trans e2);have HBT_2:=Hi28 (HBT_1.out.ext e2);have HB0_2:=Hi28 (HB0_1.out.ext e2);clear e2 c0_0 cT_3;go_wp2;go_ret2;exact ⟨T,M,HBT_2.out,HG0.out,HX2.out.ext,Or.inl ⟨a,rfl,HP0.out,HA.out,HO.out,HW.out⟩⟩
 ·have HE0:=Hi28 e0;have HGM:Hid (GoodM P T):=Hi28 ⟨HG0.out.inv,HG0.out.fz,atU_neg (by omega),HP0.out⟩;obtain ⟨N,hN⟩:=min_ends HGM.out;have HN:=Hi28 hN;clear hN e0;have c0_0:=HB0_1.out.cell 0 rfl;have cT_3:=HBT_1.out.c3;go_wp2_with fail;refine (least_m1_t (HG.out.ext (HX1.out.ext)) (HBT_1.out) HE0.out (HB0_1.out) hn).mono ?_;rintro e w2 ⟨rfl,e2⟩;have HX2:=Hi28 (HX1.out.trans e2);have HBT_2:=Hi28 (HBT_1.out.ext e2);have HB0_2:=Hi28 (HB0_1.out.ext e2);clear e2 c0_0 cT_3;go_wp2_with fail;go_loopg [3] N (fun gk x0_ wx=>x0_ = .bool false/\∃ (k:Nat) (M1:TM) ,N<=k+gk/\Hid (Mv X w (fun k=>X.heap.size<=k) wx/\Blk wx (w.heap.size) #[.pointer (some ⟨p,0,none⟩)] 175/\TA X P (itr P.stepM k T) p M1 wx/\(∀ q,M1.S p P.m q->q≠w.heap.size)))
  case atStart=>exact ⟨rfl,0,M,by omega,Hi28 ⟨HX2.out,HB0_2.out,HBT_2.out,fun q hq=>(HNEBTB0.out) q hq⟩⟩
  case round =>
   rename World=>w3
   obtain ⟨rfl,k,M1,hkN,HH⟩:=hrel;obtain ⟨T1,eT⟩:∃ T1,itr P.stepM k T=T1:=⟨_,rfl⟩
   rw [eT] at HH;have HT1:=Hi28 eT;clear eT;have HX3:=Hi28 HH.out.1;have HB0_3:=Hi28 HH.out.2.1;have HBT_3:=Hi28 HH.out.2.2.1;have HNE3B0:Hid (∀ q,M1.S p P.m q->q≠w.heap.size):=Hi28 (fun q hq=>(HH.out.2.2.2 q hq));clear HH;have HGD:=Hi28 (HT1.out▸HGM.out.itM k:GoodM P T1);have HTQ:=Hi28 (SZ T1 HGD.out.inv);rcases m_ways P T1 with e1|⟨a,e1,ha,ho,hw⟩
   ·have HOK:=Hi28 (atM_neg (by omega:P.atM T1<0));have HE:=Hi28 e1;clear e1;have c0_0:=HB0_3.out.cell 0 rfl;have cT_3:=HBT_3.out.c3;go_wp2_with fail;refine (least_m2_t (HG.out.ext (HX3.out.ext)) (HBT_3.out) HE.out (HB0_3.out) hn).mono ?_;rintro e w4 ⟨rfl,e4⟩;have HX4:=Hi28 (HX3.out.trans e4);have HBT_4:=Hi28 (HBT_3.out.ext e4);have HB0_4:=Hi28 (HB0_3.out.ext e4);clear e4 c0_0 cT_3;go_wp2;go_ret2;exact ⟨T1,M1,HBT_4.out,HGD.out.good,HX4.out.ext,Or.inr (Or.inl ⟨rfl,HGD.out,HOK.out⟩)⟩
   ·have HE:=Hi28 e1;clear e1;have HA:=Hi28 ha;have HO:=Hi28 ho;have HW:=Hi28 hw;clear ha ho hw;have ha0:¬ (a:Int)<0:=by omega
    have c0_0:=HB0_3.out.cell 0 rfl;have cT_3:=HBT_3.out.c3;go_wp2_with fail;refine (least_m2_t (HG.out.ext (HX3.out.ext)) (HBT_3.out) HE.out (HB0_3.out) hn).mono ?_;rintro e w4 ⟨rfl,e4⟩;have HX4:=Hi28 (HX3.out.trans e4);have HBT_4:=Hi28 (HBT_3.out.ext e4);have HB0_4:=Hi28 (HB0_3.out.ext e4);clear e4 c0_0 cT_3;go_upto_region 7 with fail
    rcases lv_ways2 P T1 a with e2|⟨r,e2,hr,hf⟩
    ·have HFN:=Hi28 (lv_neg (by omega:P.lv T1 a P.m<0));have HE2:=Hi28 e2;clear e2;have c0_0:=HB0_4.out.cell 0 rfl;go_wp2_with fail;refine (leave_t (HG.out.ext (HX4.out.ext)) (HBT_4.out) HE2.out HA.out hm HTQ.out hq1 hq2).mono ?_;rintro e w5 ⟨rfl,e5⟩;have HX5:=Hi28 (HX4.out.trans e5);have HBT_5:=Hi28 (HBT_4.out.ext e5);have HB0_5:=Hi28 (HB0_4.out.ext e5);clear e5 c0_0;go_wp2;go_ret2;exact ⟨T1,M1,HBT_5.out,HGD.out.good,HX5.out.ext,Or.inr (Or.inr ⟨a,rfl,HGD.out,HA.out,HO.out,HW.out,HFN.out⟩)⟩
    ·have HE2:=Hi28 e2;clear e2;have HR:=Hi28 hr;have HF0:=Hi28 hf;clear hr hf;have hr0:¬ (r:Int)<0:=by omega
     have HST:=Hi28 (stepM_at HE.out HE2.out);have HKN:Hid (k<N):=Hi28 (itr_lt (fun _ h=>stepM_halt h) HN.out (by rw [HT1.out];exact HST.out.1));have c0_0:=HB0_4.out.cell 0 rfl;go_wp2_with fail;refine (leave_t (HG.out.ext (HX4.out.ext)) (HBT_4.out) HE2.out HA.out hm HTQ.out hq1 hq2).mono ?_;rintro e w5 ⟨rfl,e5⟩;have HX5:=Hi28 (HX4.out.trans e5);have HBT_5:=Hi28 (HBT_4.out.ext e5);have HB0_5:=Hi28 (HB0_4.out.ext e5);clear e5 c0_0;have c0_0:=HB0_5.out.cell 0 rfl;go_wp2_with fail;refine (pivot_t HG.out HX5.out.ext HBT_5.out HR.out HA.out HF0.out hn hm hq1 hq2 HTQ.out).mono ?_;rintro e w6 ⟨rfl,m_,kz,g_,t_⟩;have HX6:Hid (Mv X w (fun k=>X.heap.size<=k) w6):=Hi28 (HX5.out.comp m_ (fun k hk=>Or.inl (HBT_5.out.up k hk)));have HB0_6:Hid (Blk w6 (w.heap.size) (#[.pointer (some ⟨p,0,none⟩)]) 175):=Hi28 (m_.blk HB0_5.out (fun hk=>HNE3B0.out _ hk rfl));have HNPB0:Hid (∀ k,(M1.piv r kz P.n).S p P.m k->k≠w.heap.size):=Hi28 (TM.piv_ne HNE3B0.out HB0_5.out.lt g_);have HBT_6:=Hi28 t_;clear m_ g_ t_ c0_0;go_wp2_with fail;go_roundg (gk-1)
     case rel=>exact ⟨rfl,k+1,(M1.piv r kz P.n),by omega,Hi28 ⟨HX6.out,HB0_6.out,(by rw [itr,HT1.out,HST.out.2];exact HBT_6.out),fun q hq=>(HNPB0.out) q hq⟩⟩
     case measure=>have:=HKN.out;omega
end Go.Proofs.YtmahadmefplbnaaGreatDoor
