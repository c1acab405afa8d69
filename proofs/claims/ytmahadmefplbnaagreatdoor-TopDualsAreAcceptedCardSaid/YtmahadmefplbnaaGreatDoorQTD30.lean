/- Part 30. -/
import Derived.Test.YtmahadmefplbnaaGreatDoorQTDB
import Derived.Test.YtmahadmefplbnaaGreatDoorQTD29
set_option maxRecDepth 100000
set_option maxHeartbeats 2000000
open Go.Proofs.Tryz
set_option linter.unusedSimpArgs false
set_option linter.unusedVariables false
namespace Go.Proofs.YtmahadmefplbnaaGreatDoor
open Go Go.RowKit
theorem Ac{q:Rat}(h:0<q):0<q.num:=by
 have h1:=(Rat.lt_iff 0 q).1 h;simpa using h1
theorem tR{q:Rat}:q.num<0 ↔ q<0:=by rw[Rat.lt_iff];simp
theorem AF{q:Rat}:0<q.num ↔ 0<q:=by rw[Rat.lt_iff];simp
theorem Dy{q:Rat}:((qs q).toList == [48])=decide (q=0):=by
 by_cases h:q=0
 ·rw[eU h];simp[h]
 ·rw[a6 h];simp[h]
theorem r8{q:Rat}(h:¬ 0<q):decide (0<q.num)=false:=by
 rw[decide_eq_false_iff_not];intro h';exact h ((Rat.lt_iff 0 q).2 (by simpa using h'))
def Rl(w:World)(v:Value)(m:Nat)(c:Nat->Rat)(vf:Nat->Value):Prop:=∃ (ao:Option Addr) (cap:Nat),v = .slice ao m cap/\m<=cap/\cap<=maxLen /\
 ∀ i,i<m->∃ lb,ao=some ⟨lb,0,none⟩/\w.cell? ⟨lb,i*2,none⟩=some (.string (qs (c i)))/\w.cell? ⟨lb,i*2+1,none⟩=some (vf i)
theorem Rl.ext{w w':World}{v:Value}{m:Nat}{c:Nat->Rat}{vf:Nat->Value}(h:Rl w v m c vf)(e:Ext w w'):Rl w' v m c vf:=by
 obtain⟨ao,cap,h1,h2,h3,h4⟩:=h;exact⟨ao,cap,h1,h2,h3,fun i hi=>let ⟨lb,e1,e2,e3⟩:=h4 i hi;⟨lb,e1,az e e2,az e e3⟩⟩
structure TR(P:LP)(T:aO)(w:World)(p:Nat)(vb vl vo vw:Value)(vf:Nat->Value):Prop where
 tab:∃ CP,ax w p CP 185/\CP[0]?=some (.int .i64 (P.n:Int))/\CP[1]?=some vb/\CP[2]?=some vl/\CP[3]?=some vo/\CP[4]?=some (.string (qs T.wc))/\CP[5]?=some vw
 b:Ri w vb P.m (fun i=>(T.b i:Nat))
 o:Ri w vo P.n (fun j=>(T.o j:Nat))
 l:Rl w vl P.m T.c vf
 wf:Rq w vw P.n T.wf
 f:∀ i,i<P.m->Rq w (vf i) P.n (T.f i)
theorem TR.ext{P:LP}{T:aO}{w w':World}{p:Nat}{vb vl vo vw:Value}{vf:Nat->Value}(h:TR P T w p vb vl vo vw vf)(e:Ext w w'):TR P T w' p vb vl vo vw vf :=
 ⟨let ⟨CP,a,b⟩:=h.tab;⟨CP,a.ext e,b⟩,h.b.ext e,h.o.ext e,h.l.ext e,h.wf.ext e,fun i hi=>(h.f i hi).ext e⟩
theorem yA{vs:Nat->Nat}{is:Nat->Bool}{k:Nat}(h:is k=false):js vs is (k+1)=js vs is k:=by rw[js,if_neg (by simp[h])]
theorem vJ{vs:Nat->Nat}{is:Nat->Bool}{k:Nat}(h:is k=true)(e:js vs is k=-1):js vs is (k+1)=(k:Int):=by rw[js,if_pos ⟨h,Or.inl ae⟩]
theorem yC{vs:Nat->Nat}{is:Nat->Bool}{k i:Nat}(h:is k=true)(e:js vs is k=(i:Int))(hl:vs k<vs i):js vs is (k+1)=(k:Int):=by rw[js,if_pos ⟨h,Or.inr (by rw[e];exact hl)⟩]
theorem yB{vs:Nat->Nat}{is:Nat->Bool}{k i:Nat}(h:is k=true)(e:js vs is k=(i:Int))(hl:¬ vs k<vs i):js vs is (k+1)=(i:Int):=by
 rw[js,if_neg (fun h'=>h'.2.elim (fun x=>ae) (fun x=>by rw[e] at x;exact hl x))];exact e
theorem uH{w:World}{a:Addr}{i:Nat}{v:Value}(h:∃ b,(some a:Option Addr)=some b/\w.cell? (b.add i)=some v):w.cell? (a.add i)=some v:=by
 obtain⟨b,e,h⟩:=h;rw[Option.some.inj e];exact h
theorem aT{n:Nat}(p v:Nat)(r:Bool)(w:World){CP:Array Value}(hB:ax w p CP 185)(h0:CP[0]?=some (.int .i64 (n:Int)))(hr:decide (n<=v)=r):Calls prog 198 #[.pointer (some ⟨p,0,none⟩),.int .i64 (v:Int)] w (fun e w'=>e = .returned (.bool r)/\w=w'):=by
 have HBp:=aj hB;have HP0:=aj h0;have HR:=aj hr;clear hB h0 hr;go_enter func198,ntmps198;by_cases h1:n<=v
 ·obtain rfl:r=true:=by rw[← HR.o];simpa using h1
  have h2:(n:Int)<=(v:Int):=ae;have cp_0:=HBp.o.cell (0) HP0.o;go_wp2;go_ret;exact⟨rfl,rfl⟩
 ·obtain rfl:r=false:=by rw[← HR.o];simpa using h1
  have h2:¬ (n:Int)<=(v:Int):=ae;have cp_0:=HBp.o.cell (0) HP0.o;go_wp2;go_ret;exact⟨rfl,rfl⟩
theorem DZ(P:LP)(T:aO)(p:Nat)(vb vl vo vw:Value)(vf:Nat->Value)(w:World)(xb i:Nat)(CX:Array Value)(tx:TypeId)(r:Bool)(g:Gd w)(hT:TR P T w p vb vl vo vw vf)(bx:ax w xb CX tx)(x0:CX[0]?=some (.pointer (some ⟨p,0,none⟩)))(hi:i<P.m)(hr:(decide (P.n<=T.b i) && decide (T.c i<0))=r):Calls prog 202 #[.int .i64 (i:Int),.pointer (some ⟨xb,0,none⟩)] w (aR w (.bool r)):=by
 have HG:=aj g;have HBx:=aj bx;have HX00:=aj x0;have HI:=aj hi;have HR:=aj hr;clear g bx x0 hi hr;obtain⟨CP,b1,p0⟩:=hT.tab;obtain⟨bo,bc,rfl,zb1,nR,hb⟩:=hT.b;obtain⟨lo_,lc,rfl,zl1,zl2,hl⟩:=hT.l;obtain⟨oo,oc,rfl,zo1,zo2,ho⟩:=hT.o;obtain⟨wo,wcap,rfl,zw1,zw2,hw⟩:=hT.wf;have HF:=aj hT.f;have HTR:=aj hT;have HBp:=aj b1;have HP0:Hid (_/\_/\_/\_/\_/\_):=aj p0;have HRB:=aj hb;have HRL:=aj hl;have HRO:=aj ho;have HRW:=aj hw;clear b1 p0 hb hl ho hw hT zb1 nR zl1 zl2 zo1 zo2 zw1 zw2;go_enter func202,ntmps202;have vi_:=HI.o;obtain⟨ba,rfl,zb_⟩:=HRB.o i HI.o;have HCb:=aj zb_;clear zb_;have vi_:=HI.o;obtain⟨la,rfl,zl_,zm_⟩:=HRL.o i HI.o;have HCl:=aj zl_;have HCm:=aj zm_;clear zl_ zm_;by_cases h1:P.n<=T.b i
 ·have h1p:=aj h1;clear h1;go_wp2_with fail;refine aD [.val (.pointer (some ⟨p,0,none⟩)),.val (.pointer (some ⟨p,0,none⟩)),.val (.pointer (some ⟨p,0,none⟩)),.val (.pointer (some ⟨p,1,none⟩)),.val (.slice (some ba) P.m bc),.val (.int .i64 (i:Int)),.val (.pointer (some (ba.add i))),.val (.int .i64 (T.b i:Int)),.val (.bool true),.val (.bool true),.val (.pointer (some ⟨p,0,none⟩)),.val (.pointer (some ⟨p,0,none⟩)),.val (.pointer (some ⟨p,2,none⟩)),.val (.slice (some ⟨la,0,none⟩) P.m lc),.val (.int .i64 (i:Int)),.val (.pointer (some ⟨la,i*2,none⟩)),.val (.pointer (some ⟨la,i*2,none⟩)),.val (.string (qs (T.c i))),.val (.int .i64 ((T.c i).num.sign)),.val (.bool (decide ((T.c i).num<0))),.val (.bool (decide ((T.c i).num<0))),.val (.bool (decide ((T.c i).num<0)))] (fun L g W=>True) (S:=fun _=>False) ag ag ag (Mv.refl (Ext.refl w) (fun k h=>h.elim)) ?_ ?_ ?_ ?_ (fun gv_ w1 hm_ he_=>?_)
  ·exact fun _=>trivial
  ·exact fun _ _ _ _ h _=>h
  ·exact fun _ _ _ _ _ _ h=>h
  ·skip
   exact J2 (fun hs_=>hs_.is 1 (.pointer (some ⟨xb,0,none⟩))) (fun hs_=>(hs_.mv.aF HBx.o (fun h=>h)).cell (0) HX00.o)<|J2 (fun hs_=>hs_.is 1 (.pointer (some ⟨xb,0,none⟩))) (fun hs_=>(hs_.mv.aF HBx.o (fun h=>h)).cell (0) HX00.o)<|R1 1<|R1 2<|J2 (fun hs_=>hs_.val 3) (fun hs_=>(hs_.mv.aF HBp.o (fun h=>h)).cell (1) HP0.o.2.1)<|RI 0 (.int .i64 (i:Int))<|R2 4 5<|J2 (fun hs_=>hs_.val 6) (fun hs_=>az hs_.mv.ext (HCb.o))<|M2 (fun hs_=>hs_.val 0) (fun hs_=>hs_.val 7) (fun hs_=>aT (n:=P.n) p (T.b i) true _ (hs_.mv.aF HBp.o (fun h=>h)) HP0.o.1 (by have:=h1p.out;simp;omega))<|R1 8<|J2 (fun hs_=>hs_.is 1 (.pointer (some ⟨xb,0,none⟩))) (fun hs_=>(hs_.mv.aF HBx.o (fun h=>h)).cell (0) HX00.o)<|R1 10<|R1 11<|J2 (fun hs_=>hs_.val 12) (fun hs_=>(hs_.mv.aF HBp.o (fun h=>h)).cell (2) HP0.o.2.2.1)<|RI 0 (.int .i64 (i:Int))<|R2 13 14<|R1 15<|J2 (fun hs_=>hs_.val 16) (fun hs_=>az hs_.mv.ext (HCl.o))<|M1 (fun hs_=>hs_.val 17) (fun _=>di (T.c i) _)<|R1 18<|R2 9 19<|R1 20<|aB.nil
  simp only[fT,Ke.value,bD,Act.put,List.setIfInBounds_toArray,List.set_cons_zero,List.set_cons_succ];have HX1:Hid (Ext w w1):=aj hm_.ext;clear hm_ he_;go_wp2;go_ret;exact⟨by rw[← HR.o];simp[h1p.out,tR],HX1.o⟩
 ·have h1p:=aj h1;obtain rfl:r=false:=by rw[← HR.o];simp[h1]
  clear h1;go_wp2_with fail;refine aD [.val (.pointer (some ⟨p,0,none⟩)),.val (.pointer (some ⟨p,0,none⟩)),.val (.pointer (some ⟨p,0,none⟩)),.val (.pointer (some ⟨p,1,none⟩)),.val (.slice (some ba) P.m bc),.val (.int .i64 (i:Int)),.val (.pointer (some (ba.add i))),.val (.int .i64 (T.b i:Int)),.val (.bool false),.val (.bool false),.off,.off,.off,.off,.off,.off,.off,.off,.off,.off,.val (.bool false),.val (.bool false)] (fun L g W=>True) (S:=fun _=>False) ag ag ag (Mv.refl (Ext.refl w) (fun k h=>h.elim)) ?_ ?_ ?_ ?_ (fun gv_ w1 hm_ he_=>?_)
  ·exact fun _=>trivial
  ·exact fun _ _ _ _ h _=>h
  ·exact fun _ _ _ _ _ _ h=>h
  ·skip
   exact J2 (fun hs_=>hs_.is 1 (.pointer (some ⟨xb,0,none⟩))) (fun hs_=>(hs_.mv.aF HBx.o (fun h=>h)).cell (0) HX00.o)<|J2 (fun hs_=>hs_.is 1 (.pointer (some ⟨xb,0,none⟩))) (fun hs_=>(hs_.mv.aF HBx.o (fun h=>h)).cell (0) HX00.o)<|R1 1<|R1 2<|J2 (fun hs_=>hs_.val 3) (fun hs_=>(hs_.mv.aF HBp.o (fun h=>h)).cell (1) HP0.o.2.1)<|RI 0 (.int .i64 (i:Int))<|R2 4 5<|J2 (fun hs_=>hs_.val 6) (fun hs_=>az hs_.mv.ext (HCb.o))<|M2 (fun hs_=>hs_.val 0) (fun hs_=>hs_.val 7) (fun hs_=>aT (n:=P.n) p (T.b i) false _ (hs_.mv.aF HBp.o (fun h=>h)) HP0.o.1 (by have:=h1p.out;simp;omega))<|R1 8<|RO<|RO<|RO<|RO<|RO<|RO<|RO<|RO<|RO<|RO<|J2 (fun hs_=>hs_.val 9) (fun hs_=>hs_.un 19)<|R1 20<|aB.nil
  simp only[fT,Ke.value,bD,Act.put,List.setIfInBounds_toArray,List.set_cons_zero,List.set_cons_succ];have HX1:Hid (Ext w w1):=aj hm_.ext;clear hm_ he_;go_wp2;go_ret;exact⟨rfl,HX1.o⟩
theorem DY(P:LP)(T:aO)(p:Nat)(vb vl vo vw:Value)(vf:Nat->Value)(w:World)(xb j:Nat)(CX:Array Value)(tx:TypeId)(yb row:Nat)(CY:Array Value)(ty:TypeId)(r:Bool)(g:Gd w)(hT:TR P T w p vb vl vo vw vf)(bx:ax w xb CX tx)(x0:CX[0]?=some (.pointer (some ⟨p,0,none⟩)))(by_:ax w yb CY ty)(y0:CY[0]?=some (.int .i64 (row:Int)))(hrow:row<P.m)(hi:j<P.n)(hr:(decide (P.n<=T.o j) && decide (0<T.f row j))=r):Calls prog 203 #[.int .i64 (j:Int),.pointer (some ⟨xb,0,none⟩),.pointer (some ⟨yb,0,none⟩)] w (aR w (.bool r)):=by
 have HG:=aj g;have HBx:=aj bx;have HX00:=aj x0;have HI:=aj hi;have HR:=aj hr;have HBy:=aj by_;have HY00:=aj y0;have HROW:=aj hrow;clear g bx x0 hi hr by_ y0 hrow;obtain⟨CP,b1,p0⟩:=hT.tab;obtain⟨bo,bc,rfl,zb1,nR,hb⟩:=hT.b;obtain⟨lo_,lc,rfl,zl1,zl2,hl⟩:=hT.l;obtain⟨oo,oc,rfl,zo1,zo2,ho⟩:=hT.o;obtain⟨wo,wcap,rfl,zw1,zw2,hw⟩:=hT.wf;have HF:=aj hT.f;have HTR:=aj hT;have HBp:=aj b1;have HP0:Hid (_/\_/\_/\_/\_/\_):=aj p0;have HRB:=aj hb;have HRL:=aj hl;have HRO:=aj ho;have HRW:=aj hw;clear b1 p0 hb hl ho hw hT zb1 nR zl1 zl2 zo1 zo2 zw1 zw2;go_enter func203,ntmps203;have vj_:=HI.o;obtain⟨oa,rfl,zo_⟩:=HRO.o j HI.o;have HCo:=aj zo_;clear zo_;have vrow_:=HROW.o;obtain⟨la,rfl,zl_,zm_⟩:=HRL.o row HROW.o;have HCl:=aj zl_;have HCm:=aj zm_;clear zl_ zm_;obtain⟨fo,fcap,ef_,_,_,hf_⟩:=HF.o row HROW.o;obtain⟨fa,rfl,zf_⟩:=hf_ j HI.o;rw[ef_] at HCm;have HCf:=aj zf_;clear zf_ hf_ ef_;by_cases h1:P.n<=T.o j
 ·have h1p:=aj h1;clear h1;go_wp2_with fail;refine aD [.val (.pointer (some ⟨p,0,none⟩)),.val (.pointer (some ⟨p,0,none⟩)),.val (.pointer (some ⟨p,0,none⟩)),.val (.pointer (some ⟨p,3,none⟩)),.val (.slice (some oa) P.n oc),.val (.int .i64 (j:Int)),.val (.pointer (some (oa.add j))),.val (.int .i64 (T.o j:Int)),.val (.bool true),.val (.bool true),.val (.pointer (some ⟨p,0,none⟩)),.val (.pointer (some ⟨p,0,none⟩)),.val (.pointer (some ⟨p,2,none⟩)),.val (.slice (some ⟨la,0,none⟩) P.m lc),.val (.int .i64 (row:Int)),.val (.pointer (some ⟨la,row*2,none⟩)),.val (.pointer (some ⟨la,row*2+1,none⟩)),.val (.slice (some fa) P.n fcap),.val (.int .i64 (j:Int)),.val (.pointer (some (fa.add j))),.val (.string (qs (T.f row j))),.val (.int .i64 ((T.f row j).num.sign)),.val (.bool (decide (0<(T.f row j).num))),.val (.bool (decide (0<(T.f row j).num))),.val (.bool (decide (0<(T.f row j).num)))] (fun L g W=>True) (S:=fun _=>False) ag ag ag (Mv.refl (Ext.refl w) (fun k h=>h.elim)) ?_ ?_ ?_ ?_ (fun gv_ w1 hm_ he_=>?_)
  ·exact fun _=>trivial
  ·exact fun _ _ _ _ h _=>h
  ·exact fun _ _ _ _ _ _ h=>h
  ·skip
   exact J2 (fun hs_=>hs_.is 1 (.pointer (some ⟨xb,0,none⟩))) (fun hs_=>(hs_.mv.aF HBx.o (fun h=>h)).cell (0) HX00.o)<|J2 (fun hs_=>hs_.is 1 (.pointer (some ⟨xb,0,none⟩))) (fun hs_=>(hs_.mv.aF HBx.o (fun h=>h)).cell (0) HX00.o)<|R1 1<|R1 2<|J2 (fun hs_=>hs_.val 3) (fun hs_=>(hs_.mv.aF HBp.o (fun h=>h)).cell (3) HP0.o.2.2.2.1)<|RI 0 (.int .i64 (j:Int))<|R2 4 5<|J2 (fun hs_=>hs_.val 6) (fun hs_=>az hs_.mv.ext (HCo.o))<|M2 (fun hs_=>hs_.val 0) (fun hs_=>hs_.val 7) (fun hs_=>aT (n:=P.n) p (T.o j) true _ (hs_.mv.aF HBp.o (fun h=>h)) HP0.o.1 (by have:=h1p.out;simp;omega))<|R1 8<|J2 (fun hs_=>hs_.is 1 (.pointer (some ⟨xb,0,none⟩))) (fun hs_=>(hs_.mv.aF HBx.o (fun h=>h)).cell (0) HX00.o)<|R1 10<|R1 11<|J2 (fun hs_=>hs_.val 12) (fun hs_=>(hs_.mv.aF HBp.o (fun h=>h)).cell (2) HP0.o.2.2.1)<|J2 (fun hs_=>hs_.is 2 (.pointer (some ⟨yb,0,none⟩))) (fun hs_=>(hs_.mv.aF HBy.o (fun h=>h)).cell (0) HY00.o)<|R2 13 14<|R1 15<|J2 (fun hs_=>hs_.val 16) (fun hs_=>az hs_.mv.ext (HCm.o))<|RI 0 (.int .i64 (j:Int))<|R2 17 18<|J2 (fun hs_=>hs_.val 19) (fun hs_=>az hs_.mv.ext (HCf.o))<|M1 (fun hs_=>hs_.val 20) (fun _=>di (T.f row j) _)<|R1 21<|R2 9 22<|R1 23<|aB.nil
  simp only[fT,Ke.value,bD,Act.put,List.setIfInBounds_toArray,List.set_cons_zero,List.set_cons_succ];have HX1:Hid (Ext w w1):=aj hm_.ext;clear hm_ he_;go_wp2;go_ret;exact⟨by rw[← HR.o];simp[h1p.out,AF],HX1.o⟩
 ·have h1p:=aj h1;obtain rfl:r=false:=by rw[← HR.o];simp[h1]
  clear h1;go_wp2_with fail;refine aD [.val (.pointer (some ⟨p,0,none⟩)),.val (.pointer (some ⟨p,0,none⟩)),.val (.pointer (some ⟨p,0,none⟩)),.val (.pointer (some ⟨p,3,none⟩)),.val (.slice (some oa) P.n oc),.val (.int .i64 (j:Int)),.val (.pointer (some (oa.add j))),.val (.int .i64 (T.o j:Int)),.val (.bool false),.val (.bool false),.off,.off,.off,.off,.off,.off,.off,.off,.off,.off,.off,.off,.off,.val (.bool false),.val (.bool false)] (fun L g W=>True) (S:=fun _=>False) ag ag ag (Mv.refl (Ext.refl w) (fun k h=>h.elim)) ?_ ?_ ?_ ?_ (fun gv_ w1 hm_ he_=>?_)
  ·exact fun _=>trivial
  ·exact fun _ _ _ _ h _=>h
  ·exact fun _ _ _ _ _ _ h=>h
  ·skip
   exact J2 (fun hs_=>hs_.is 1 (.pointer (some ⟨xb,0,none⟩))) (fun hs_=>(hs_.mv.aF HBx.o (fun h=>h)).cell (0) HX00.o)<|J2 (fun hs_=>hs_.is 1 (.pointer (some ⟨xb,0,none⟩))) (fun hs_=>(hs_.mv.aF HBx.o (fun h=>h)).cell (0) HX00.o)<|R1 1<|R1 2<|J2 (fun hs_=>hs_.val 3) (fun hs_=>(hs_.mv.aF HBp.o (fun h=>h)).cell (3) HP0.o.2.2.2.1)<|RI 0 (.int .i64 (j:Int))<|R2 4 5<|J2 (fun hs_=>hs_.val 6) (fun hs_=>az hs_.mv.ext (HCo.o))<|M2 (fun hs_=>hs_.val 0) (fun hs_=>hs_.val 7) (fun hs_=>aT (n:=P.n) p (T.o j) false _ (hs_.mv.aF HBp.o (fun h=>h)) HP0.o.1 (by have:=h1p.out;simp;omega))<|R1 8<|RO<|RO<|RO<|RO<|RO<|RO<|RO<|RO<|RO<|RO<|RO<|RO<|RO<|J2 (fun hs_=>hs_.val 9) (fun hs_=>hs_.un 22)<|R1 23<|aB.nil
  simp only[fT,Ke.value,bD,Act.put,List.setIfInBounds_toArray,List.set_cons_zero,List.set_cons_succ];have HX1:Hid (Ext w w1):=aj hm_.ext;clear hm_ he_;go_wp2;go_ret;exact⟨rfl,HX1.o⟩
theorem DX(P:LP)(T:aO)(p:Nat)(vb vl vo vw:Value)(vf:Nat->Value)(w:World)(xb j:Nat)(CX:Array Value)(tx:TypeId)(r:Bool)(g:Gd w)(hT:TR P T w p vb vl vo vw vf)(bx:ax w xb CX tx)(x0:CX[0]?=some (.pointer (some ⟨p,0,none⟩)))(hi:j<P.n)(hr:(!decide (P.n<=T.o j) && decide (T.wf j≠0))=r):Calls prog 204 #[.int .i64 (j:Int),.pointer (some ⟨xb,0,none⟩)] w (aR w (.bool r)):=by
 have HG:=aj g;have HBx:=aj bx;have HX00:=aj x0;have HI:=aj hi;have HR:=aj hr;clear g bx x0 hi hr;obtain⟨CP,b1,p0⟩:=hT.tab;obtain⟨bo,bc,rfl,zb1,nR,hb⟩:=hT.b;obtain⟨lo_,lc,rfl,zl1,zl2,hl⟩:=hT.l;obtain⟨oo,oc,rfl,zo1,zo2,ho⟩:=hT.o;obtain⟨wo,wcap,rfl,zw1,zw2,hw⟩:=hT.wf;have HF:=aj hT.f;have HTR:=aj hT;have HBp:=aj b1;have HP0:Hid (_/\_/\_/\_/\_/\_):=aj p0;have HRB:=aj hb;have HRL:=aj hl;have HRO:=aj ho;have HRW:=aj hw;clear b1 p0 hb hl ho hw hT zb1 nR zl1 zl2 zo1 zo2 zw1 zw2;go_enter func204,ntmps204;have vj_:=HI.o;obtain⟨oa,rfl,zo_⟩:=HRO.o j HI.o;have HCo:=aj zo_;clear zo_;obtain⟨wa,rfl,zw_⟩:=HRW.o j HI.o;have HCw:=aj zw_;clear zw_;by_cases h1:P.n<=T.o j
 ·have h1p:=aj h1;obtain rfl:r=false:=by rw[← HR.o];simp[h1]
  clear h1;go_wp2_with fail;refine aD [.val (.pointer (some ⟨p,0,none⟩)),.val (.pointer (some ⟨p,0,none⟩)),.val (.pointer (some ⟨p,0,none⟩)),.val (.pointer (some ⟨p,3,none⟩)),.val (.slice (some oa) P.n oc),.val (.int .i64 (j:Int)),.val (.pointer (some (oa.add j))),.val (.int .i64 (T.o j:Int)),.val (.bool true),.val (.bool false),.val (.bool false),.off,.off,.off,.off,.off,.off,.off,.off,.off,.val (.bool false),.val (.bool false)] (fun L g W=>True) (S:=fun _=>False) ag ag ag (Mv.refl (Ext.refl w) (fun k h=>h.elim)) ?_ ?_ ?_ ?_ (fun gv_ w1 hm_ he_=>?_)
  ·exact fun _=>trivial
  ·exact fun _ _ _ _ h _=>h
  ·exact fun _ _ _ _ _ _ h=>h
  ·skip
   exact J2 (fun hs_=>hs_.is 1 (.pointer (some ⟨xb,0,none⟩))) (fun hs_=>(hs_.mv.aF HBx.o (fun h=>h)).cell (0) HX00.o)<|J2 (fun hs_=>hs_.is 1 (.pointer (some ⟨xb,0,none⟩))) (fun hs_=>(hs_.mv.aF HBx.o (fun h=>h)).cell (0) HX00.o)<|R1 1<|R1 2<|J2 (fun hs_=>hs_.val 3) (fun hs_=>(hs_.mv.aF HBp.o (fun h=>h)).cell (3) HP0.o.2.2.2.1)<|RI 0 (.int .i64 (j:Int))<|R2 4 5<|J2 (fun hs_=>hs_.val 6) (fun hs_=>az hs_.mv.ext (HCo.o))<|M2 (fun hs_=>hs_.val 0) (fun hs_=>hs_.val 7) (fun hs_=>aT (n:=P.n) p (T.o j) true _ (hs_.mv.aF HBp.o (fun h=>h)) HP0.o.1 (by have:=h1p.out;simp;omega))<|R1 8<|R1 9<|RO<|RO<|RO<|RO<|RO<|RO<|RO<|RO<|RO<|J2 (fun hs_=>hs_.val 10) (fun hs_=>hs_.un 19)<|R1 20<|aB.nil
  simp only[fT,Ke.value,bD,Act.put,List.setIfInBounds_toArray,List.set_cons_zero,List.set_cons_succ];have HX1:Hid (Ext w w1):=aj hm_.ext;clear hm_ he_;go_wp2;go_ret;exact⟨rfl,HX1.o⟩
 ·have h1p:=aj h1;clear h1;go_wp2_with fail;refine aD [.val (.pointer (some ⟨p,0,none⟩)),.val (.pointer (some ⟨p,0,none⟩)),.val (.pointer (some ⟨p,0,none⟩)),.val (.pointer (some ⟨p,3,none⟩)),.val (.slice (some oa) P.n oc),.val (.int .i64 (j:Int)),.val (.pointer (some (oa.add j))),.val (.int .i64 (T.o j:Int)),.val (.bool false),.val (.bool true),.val (.bool true),.val (.pointer (some ⟨p,0,none⟩)),.val (.pointer (some ⟨p,0,none⟩)),.val (.pointer (some ⟨p,4,none⟩)),.val (.pointer (some ⟨p,5,none⟩)),.val (.slice (some wa) P.n wcap),.val (.int .i64 (j:Int)),.val (.pointer (some (wa.add j))),.val (.string (qs (T.wf j))),.val (.bool (!((qs (T.wf j)).toList == [48]))),.val (.bool (!((qs (T.wf j)).toList == [48]))),.val (.bool (!((qs (T.wf j)).toList == [48])))] (fun L g W=>True) (S:=fun _=>False) ag ag ag (Mv.refl (Ext.refl w) (fun k h=>h.elim)) ?_ ?_ ?_ ?_ (fun gv_ w1 hm_ he_=>?_)
  ·exact fun _=>trivial
  ·exact fun _ _ _ _ h _=>h
  ·exact fun _ _ _ _ _ _ h=>h
  ·skip
   exact J2 (fun hs_=>hs_.is 1 (.pointer (some ⟨xb,0,none⟩))) (fun hs_=>(hs_.mv.aF HBx.o (fun h=>h)).cell (0) HX00.o)<|J2 (fun hs_=>hs_.is 1 (.pointer (some ⟨xb,0,none⟩))) (fun hs_=>(hs_.mv.aF HBx.o (fun h=>h)).cell (0) HX00.o)<|R1 1<|R1 2<|J2 (fun hs_=>hs_.val 3) (fun hs_=>(hs_.mv.aF HBp.o (fun h=>h)).cell (3) HP0.o.2.2.2.1)<|RI 0 (.int .i64 (j:Int))<|R2 4 5<|J2 (fun hs_=>hs_.val 6) (fun hs_=>az hs_.mv.ext (HCo.o))<|M2 (fun hs_=>hs_.val 0) (fun hs_=>hs_.val 7) (fun hs_=>aT (n:=P.n) p (T.o j) false _ (hs_.mv.aF HBp.o (fun h=>h)) HP0.o.1 (by have:=h1p.out;simp;omega))<|R1 8<|R1 9<|J2 (fun hs_=>hs_.is 1 (.pointer (some ⟨xb,0,none⟩))) (fun hs_=>(hs_.mv.aF HBx.o (fun h=>h)).cell (0) HX00.o)<|R1 11<|R1 12<|R1 13<|J2 (fun hs_=>hs_.val 14) (fun hs_=>(hs_.mv.aF HBp.o (fun h=>h)).cell (5) HP0.o.2.2.2.2.2)<|RI 0 (.int .i64 (j:Int))<|R2 15 16<|J2 (fun hs_=>hs_.val 17) (fun hs_=>az hs_.mv.ext (HCw.o))<|R1 18<|R2 10 19<|R1 20<|aB.nil
  simp only[fT,Ke.value,bD,Act.put,List.setIfInBounds_toArray,List.set_cons_zero,List.set_cons_succ];have HX1:Hid (Ext w w1):=aj hm_.ext;clear hm_ he_;go_wp2;go_ret;exact⟨by rw[← HR.o];simp[h1p.out,Dy],HX1.o⟩
theorem DW(P:LP)(T:aO)(p:Nat)(vb vl vo vw:Value)(vf:Nat->Value)(w:World)(xb j:Nat)(CX:Array Value)(tx:TypeId)(r:Bool)(g:Gd w)(hT:TR P T w p vb vl vo vw vf)(bx:ax w xb CX tx)(x0:CX[0]?=some (.pointer (some ⟨p,0,none⟩)))(hi:j<P.n)(hr:(decide (P.n<=T.o j) && decide (T.wf j<0))=r):Calls prog 205 #[.int .i64 (j:Int),.pointer (some ⟨xb,0,none⟩)] w (aR w (.bool r)):=by
 have HG:=aj g;have HBx:=aj bx;have HX00:=aj x0;have HI:=aj hi;have HR:=aj hr;clear g bx x0 hi hr;obtain⟨CP,b1,p0⟩:=hT.tab;obtain⟨bo,bc,rfl,zb1,nR,hb⟩:=hT.b;obtain⟨lo_,lc,rfl,zl1,zl2,hl⟩:=hT.l;obtain⟨oo,oc,rfl,zo1,zo2,ho⟩:=hT.o;obtain⟨wo,wcap,rfl,zw1,zw2,hw⟩:=hT.wf;have HF:=aj hT.f;have HTR:=aj hT;have HBp:=aj b1;have HP0:Hid (_/\_/\_/\_/\_/\_):=aj p0;have HRB:=aj hb;have HRL:=aj hl;have HRO:=aj ho;have HRW:=aj hw;clear b1 p0 hb hl ho hw hT zb1 nR zl1 zl2 zo1 zo2 zw1 zw2;go_enter func205,ntmps205;have vj_:=HI.o;obtain⟨oa,rfl,zo_⟩:=HRO.o j HI.o;have HCo:=aj zo_;clear zo_;obtain⟨wa,rfl,zw_⟩:=HRW.o j HI.o;have HCw:=aj zw_;clear zw_;by_cases h1:P.n<=T.o j
 ·have h1p:=aj h1;clear h1;go_wp2_with fail;refine aD [.val (.pointer (some ⟨p,0,none⟩)),.val (.pointer (some ⟨p,0,none⟩)),.val (.pointer (some ⟨p,0,none⟩)),.val (.pointer (some ⟨p,3,none⟩)),.val (.slice (some oa) P.n oc),.val (.int .i64 (j:Int)),.val (.pointer (some (oa.add j))),.val (.int .i64 (T.o j:Int)),.val (.bool true),.val (.bool true),.val (.pointer (some ⟨p,0,none⟩)),.val (.pointer (some ⟨p,0,none⟩)),.val (.pointer (some ⟨p,4,none⟩)),.val (.pointer (some ⟨p,5,none⟩)),.val (.slice (some wa) P.n wcap),.val (.int .i64 (j:Int)),.val (.pointer (some (wa.add j))),.val (.string (qs (T.wf j))),.val (.int .i64 ((T.wf j).num.sign)),.val (.bool (decide ((T.wf j).num<0))),.val (.bool (decide ((T.wf j).num<0))),.val (.bool (decide ((T.wf j).num<0)))] (fun L g W=>True) (S:=fun _=>False) ag ag ag (Mv.refl (Ext.refl w) (fun k h=>h.elim)) ?_ ?_ ?_ ?_ (fun gv_ w1 hm_ he_=>?_)
  ·exact fun _=>trivial
  ·exact fun _ _ _ _ h _=>h
  ·exact fun _ _ _ _ _ _ h=>h
  ·skip
   exact J2 (fun hs_=>hs_.is 1 (.pointer (some ⟨xb,0,none⟩))) (fun hs_=>(hs_.mv.aF HBx.o (fun h=>h)).cell (0) HX00.o)<|J2 (fun hs_=>hs_.is 1 (.pointer (some ⟨xb,0,none⟩))) (fun hs_=>(hs_.mv.aF HBx.o (fun h=>h)).cell (0) HX00.o)<|R1 1<|R1 2<|J2 (fun hs_=>hs_.val 3) (fun hs_=>(hs_.mv.aF HBp.o (fun h=>h)).cell (3) HP0.o.2.2.2.1)<|RI 0 (.int .i64 (j:Int))<|R2 4 5<|J2 (fun hs_=>hs_.val 6) (fun hs_=>az hs_.mv.ext (HCo.o))<|M2 (fun hs_=>hs_.val 0) (fun hs_=>hs_.val 7) (fun hs_=>aT (n:=P.n) p (T.o j) true _ (hs_.mv.aF HBp.o (fun h=>h)) HP0.o.1 (by have:=h1p.out;simp;omega))<|R1 8<|J2 (fun hs_=>hs_.is 1 (.pointer (some ⟨xb,0,none⟩))) (fun hs_=>(hs_.mv.aF HBx.o (fun h=>h)).cell (0) HX00.o)<|R1 10<|R1 11<|R1 12<|J2 (fun hs_=>hs_.val 13) (fun hs_=>(hs_.mv.aF HBp.o (fun h=>h)).cell (5) HP0.o.2.2.2.2.2)<|RI 0 (.int .i64 (j:Int))<|R2 14 15<|J2 (fun hs_=>hs_.val 16) (fun hs_=>az hs_.mv.ext (HCw.o))<|M1 (fun hs_=>hs_.val 17) (fun _=>di (T.wf j) _)<|R1 18<|R2 9 19<|R1 20<|aB.nil
  simp only[fT,Ke.value,bD,Act.put,List.setIfInBounds_toArray,List.set_cons_zero,List.set_cons_succ];have HX1:Hid (Ext w w1):=aj hm_.ext;clear hm_ he_;go_wp2;go_ret;exact⟨by rw[← HR.o];simp[h1p.out,tR],HX1.o⟩
 ·have h1p:=aj h1;obtain rfl:r=false:=by rw[← HR.o];simp[h1]
  clear h1;go_wp2_with fail;refine aD [.val (.pointer (some ⟨p,0,none⟩)),.val (.pointer (some ⟨p,0,none⟩)),.val (.pointer (some ⟨p,0,none⟩)),.val (.pointer (some ⟨p,3,none⟩)),.val (.slice (some oa) P.n oc),.val (.int .i64 (j:Int)),.val (.pointer (some (oa.add j))),.val (.int .i64 (T.o j:Int)),.val (.bool false),.val (.bool false),.off,.off,.off,.off,.off,.off,.off,.off,.off,.off,.val (.bool false),.val (.bool false)] (fun L g W=>True) (S:=fun _=>False) ag ag ag (Mv.refl (Ext.refl w) (fun k h=>h.elim)) ?_ ?_ ?_ ?_ (fun gv_ w1 hm_ he_=>?_)
  ·exact fun _=>trivial
  ·exact fun _ _ _ _ h _=>h
  ·exact fun _ _ _ _ _ _ h=>h
  ·skip
   exact J2 (fun hs_=>hs_.is 1 (.pointer (some ⟨xb,0,none⟩))) (fun hs_=>(hs_.mv.aF HBx.o (fun h=>h)).cell (0) HX00.o)<|J2 (fun hs_=>hs_.is 1 (.pointer (some ⟨xb,0,none⟩))) (fun hs_=>(hs_.mv.aF HBx.o (fun h=>h)).cell (0) HX00.o)<|R1 1<|R1 2<|J2 (fun hs_=>hs_.val 3) (fun hs_=>(hs_.mv.aF HBp.o (fun h=>h)).cell (3) HP0.o.2.2.2.1)<|RI 0 (.int .i64 (j:Int))<|R2 4 5<|J2 (fun hs_=>hs_.val 6) (fun hs_=>az hs_.mv.ext (HCo.o))<|M2 (fun hs_=>hs_.val 0) (fun hs_=>hs_.val 7) (fun hs_=>aT (n:=P.n) p (T.o j) false _ (hs_.mv.aF HBp.o (fun h=>h)) HP0.o.1 (by have:=h1p.out;simp;omega))<|R1 8<|RO<|RO<|RO<|RO<|RO<|RO<|RO<|RO<|RO<|RO<|J2 (fun hs_=>hs_.val 9) (fun hs_=>hs_.un 19)<|R1 20<|aB.nil
  simp only[fT,Ke.value,bD,Act.put,List.setIfInBounds_toArray,List.set_cons_zero,List.set_cons_succ];have HX1:Hid (Ext w w1):=aj hm_.ext;clear hm_ he_;go_wp2;go_ret;exact⟨rfl,HX1.o⟩
theorem lq(vs:Nat->Nat)(is:Nat->Bool)(n fn:Nat)(cp:Array Value)(w:World)(ao_:Option Addr)(ac:Nat)(ha:∀ i,i<n->∃ a,ao_=some a/\w.cell? (a.add i)=some (.int .i64 (vs i:Nat)))(hcl:∀ W,Ext w W->∀ k:Nat,k<n->Calls prog fn (#[.int .i64 (k:Int)] ++ cp) W (aR W (.bool (is k))))(hm:n<=1000000)(hcf:∀ a_ W,(callFunc fn a_).run prog W = .ok (.enter fn a_) W):Calls prog 201 #[.slice ao_ n ac,.func (.func fn) #[] cp] w (aR w (.int .i64 (js vs is n))):=by
 have HA:=aj ha;have HCL:=aj hcl;clear ha hcl;go_enter func201,ntmps201;go_wp2_with fail;go_loopw [10,5] (fun x0_ x1_ wx=>∃ k:Nat,x0_ = .int .i64 k/\x1_ = .int .i64 (js vs is k)/\k<=n/\Hid (Ext w wx)) (fun x0_ x1_ _=>n-(intOf x0_).toNat)
 case atStart=>exact⟨0,rfl,rfl,Nat.zero_le _,aj (Ext.refl w)⟩
 case round =>
  rename World=>w1
  obtain⟨k,rfl,rfl,hk,HX0⟩:=hrel;have HX1:Hid (Ext w w1):=HX0;clear HX0;by_cases hlt:k<n
  ·have hlt2:(k:Int)<(n:Int):=ae;obtain⟨aa,rfl,za_⟩:=HA.o k hlt;have HCa:=aj za_;clear za_;have HA1:=aj (fun i (hi:i<n)=>HA.o i hi);rcases ix vs is k with⟨e0,z0⟩|⟨i0,z1,e0,z2⟩
   ·rw[e0];have HE:=aj e0;clear e0 z0;by_cases his:is k=true
    ·have HIS:=aj his;clear his;have ca_k:=az HX1.o (HCa.o);go_wp2_with fail;refine((HIS.o▸HCL.o _ HX1.o k hlt)).mono ?_;rintro e w2 ⟨rfl,e2⟩;have HX2:=aj (HX1.o.trans e2);clear e2 ca_k;go_wp2_with fail;go_roundw
     case rel=>exact⟨k+1,by go_num,by rw[vJ HIS.o HE.o],ae,aj HX2.o⟩
     case measure=>simp[intOf];omega
    ·have HIS:=aj (Bool.not_eq_true _▸his:is k=false);clear his;have ca_k:=az HX1.o (HCa.o);go_wp2_with fail;refine((HIS.o▸HCL.o _ HX1.o k hlt)).mono ?_;rintro e w2 ⟨rfl,e2⟩;have HX2:=aj (HX1.o.trans e2);clear e2 ca_k;go_wp2_with fail;go_roundw
     case rel=>exact⟨k+1,by go_num,by rw[yA HIS.o,HE.o],ae,aj HX2.o⟩
     case measure=>simp[intOf];omega
   ·rw[e0];have HE:=aj e0;have hi0:=z1;clear e0 z1 z2;by_cases his:is k=true
    ·have HIS:=aj his;clear his;have hn0:¬ (i0:Int)<0:=ae;have hi2:(i0:Int)<(n:Int):=ae;have HCi:=aj (uH (HA1.o i0 ae));by_cases hle:vs k<vs i0
     ·have hl2:((vs k:Nat):Int)<((vs i0:Nat):Int):=ae;have HLE:=aj hle;clear hle;have ca_k:=az HX1.o (HCa.o);go_wp2_with fail;refine((HIS.o▸HCL.o _ HX1.o k hlt)).mono ?_;rintro e w2 ⟨rfl,e2⟩;have HX2:=aj (HX1.o.trans e2);clear e2 ca_k;have ca_i0:=az HX2.o (HCi.o);go_wp2_with fail;go_roundw
      case rel=>exact⟨k+1,by go_num,by rw[yC HIS.o HE.o HLE.o],ae,aj HX2.o⟩
      case measure=>simp[intOf];omega
     ·have hl2:¬ ((vs k:Nat):Int)<((vs i0:Nat):Int):=ae;have HLE:=aj hle;clear hle;have ca_k:=az HX1.o (HCa.o);go_wp2_with fail;refine((HIS.o▸HCL.o _ HX1.o k hlt)).mono ?_;rintro e w2 ⟨rfl,e2⟩;have HX2:=aj (HX1.o.trans e2);clear e2 ca_k;have ca_i0:=az HX2.o (HCi.o);go_wp2_with fail;go_roundw
      case rel=>exact⟨k+1,by go_num,by rw[yB HIS.o HE.o HLE.o],ae,aj HX2.o⟩
      case measure=>simp[intOf];omega
    ·have HIS:=aj (Bool.not_eq_true _▸his:is k=false);clear his;have ca_k:=az HX1.o (HCa.o);go_wp2_with fail;refine((HIS.o▸HCL.o _ HX1.o k hlt)).mono ?_;rintro e w2 ⟨rfl,e2⟩;have HX2:=aj (HX1.o.trans e2);clear e2 ca_k;go_wp2_with fail;go_roundw
     case rel=>exact⟨k+1,by go_num,by rw[yA HIS.o,HE.o],ae,aj HX2.o⟩
     case measure=>simp[intOf];omega
  ·have hk2:k=n:=ae;have hge:¬ (k:Int)<(n:Int):=ae;rw[show js vs is k=js vs is n from by rw[hk2]];go_wp2;go_ret;exact⟨rfl,HX1.o⟩
section
variable {P:LP} {T:aO} {p:Nat} {M:TM} {w w' X:World}
theorem p8.map(h:p8 P T p M w)(f:∀ k C t,M.S p P.m k->ax w k C t->ax w' k C t):p8 P T p M w' where
 tab:=let ⟨C,a,b⟩:=h.tab;⟨C,f _ _ _ (Or.inl rfl) a,b⟩
 jA:=fun k=>let ⟨C,a,b⟩:=h.jA k;⟨C,f _ _ _ (Or.inr (Or.inl rfl)) a,b⟩
 lin:=fun k=>let ⟨C,a,b⟩:=h.lin k;⟨C,f _ _ _ (Or.inr (Or.inr (Or.inl rfl))) a,b⟩
 oth:=fun k=>let ⟨C,a,b⟩:=h.oth k;⟨C,f _ _ _ (Or.inr (Or.inr (Or.inr (Or.inl rfl)))) a,b⟩
 wor:=fun k=>let ⟨C,a,b⟩:=h.wor k;⟨C,f _ _ _ (Or.inr (Or.inr (Or.inr (Or.inr (Or.inl rfl))))) a,b⟩
 j1:=fun k i hi=>let ⟨C,a,b⟩:=h.j1 k i hi;⟨C,f _ _ _ (Or.inr (Or.inr (Or.inr (Or.inr (Or.inr ⟨i,hi,rfl⟩))))) a,b⟩
 inj:=h.inj
 fw:=h.fw
 bo:=h.bo
 caps:=h.caps
theorem tL{n k cap:Nat}{x:Option Addr}{t:TypeId}{g:Nat->Value}(hc:n<=cap/\cap<=maxLen)(h:0<n->∃ C,ax w k C t/\∀ i,i<n->C[i]?=some (g i)):Rd w (.slice (oa n k x) n cap) n g :=
 ⟨_,_,rfl,hc.1,hc.2,fun i hi=>⟨⟨k,0,none⟩,gm ae,by
  obtain⟨C,a,b⟩:=h ae;have e:(⟨k,0,none⟩:Addr).add i=⟨k,i,none⟩:=by unfold Addr.add;split <;> simp_all
  rw[e];exact a.cell i (b i hi)⟩⟩
def TM.vb(M:TM)(P:LP):Value:=.slice (oa P.m M.bb M.bx) P.m M.bc
def TM.vl(M:TM)(P:LP):Value:=.slice (oa P.m M.lb M.lx) P.m M.lc
def TM.vo(M:TM)(P:LP):Value:=.slice (oa P.n M.ob M.ox) P.n M.oc
def TM.vw(M:TM)(P:LP):Value:=.slice (oa P.n M.wb M.wx) P.n M.wcap
def TM.vf(M:TM)(P:LP)(i:Nat):Value:=.slice (oa P.n (M.fb i) (M.fx i)) P.n (M.fc i)
theorem p8.tr(h:p8 P T p M w):TR P T w p (M.vb P) (M.vl P) (M.vo P) (M.vw P) (M.vf P) where
 tab:=let ⟨C,a,b⟩:=h.tab;⟨C,a,b⟩
 b:=tL h.caps.b h.jA
 o:=tL h.caps.o h.oth
 l:=⟨_,_,rfl,h.caps.l.1,h.caps.l.2,fun i hi=>let ⟨C,a,b⟩:=h.lin ae;⟨M.lb,gm ae,a.cell _ (b i hi).1,a.cell _ (b i hi).2⟩⟩
 wf:=tL h.caps.w h.wor
 f:=fun i hi=>tL (h.caps.f i hi) (fun hn=>let ⟨C,a,b⟩:=h.j1 hn i hi;⟨C,a,b⟩)
structure TA(X:World)(P:LP)(T:aO)(p:Nat)(M:TM)(w:World):Prop where
 mem:p8 P T p M w
 up:∀ k,M.S p P.m k->X.heap.size<=k
 lt:∀ k,M.S p P.m k->k<w.heap.size
theorem TA.ext(h:TA X P T p M w)(e:Ext w w'):TA X P T p M w':=⟨h.mem.map fun _ _ _ _ b=>b.ext e,h.up,fun k hk=>Nat.lt_of_lt_of_le (h.lt k hk) e.size⟩
theorem TA.alloc(h:TA X P T p M w)(o:Obj):TA X P T p M (w.alloc o):=h.ext ((Ext.refl _).alloc o)
theorem TA.drew(h:TA X P T p M w):TA X P T p M w.drew:=h.ext (Ext.refl _).drew
theorem TA.other(h:TA X P T p M w){a:Addr}(u:Value)(hk:∀ k,M.S p P.m k->k≠a.block):TA X P T p M (w.setCell a u):=⟨h.mem.map fun k _ _ hs b=>b.other u (hk k hs),h.up,fun k hk=>by rw[World.size_setCell];exact h.lt k hk⟩
theorem TA.mv{Y:World}{S:Nat->Prop}(h:TA X P T p M w)(m:Mv Y w S w')(hs:∀ k,M.S p P.m k->¬ S k):TA X P T p M w':=⟨h.mem.map fun k _ _ hk b=>m.aF b (hs k hk),h.up,fun k hk=>Nat.lt_of_lt_of_le (h.lt k hk) m.size⟩
theorem TA.ne(h:TA X P T p M w){b:Nat}(hb:w.heap.size<=b):∀ k,M.S p P.m k->k≠b:=fun k hk e=>by have:=h.lt k hk;omega
theorem TA.tr(h:TA X P T p M w):TR P T w p (M.vb P) (M.vl P) (M.vo P) (M.vw P) (M.vf P):=h.mem.tr
theorem TA.c0(h:TA X P T p M w):w.cell? ⟨p,0,none⟩=some (.int .i64 (P.n:Int)):=let ⟨_,a,b⟩:=h.mem.tab;a.cell 0 b.1
theorem TA.c1(h:TA X P T p M w):w.cell? ⟨p,1,none⟩=some (M.vb P):=let ⟨_,a,b⟩:=h.mem.tab;a.cell 1 b.2.1
theorem TA.c2(h:TA X P T p M w):w.cell? ⟨p,2,none⟩=some (M.vl P):=let ⟨_,a,b⟩:=h.mem.tab;a.cell 2 b.2.2.1
theorem TA.c3(h:TA X P T p M w):w.cell? ⟨p,3,none⟩=some (M.vo P):=let ⟨_,a,b⟩:=h.mem.tab;a.cell 3 b.2.2.2.1
theorem TA.c4(h:TA X P T p M w):w.cell? ⟨p,4,none⟩=some (.string (qs T.wc)):=let ⟨_,a,b⟩:=h.mem.tab;a.cell 4 b.2.2.2.2.1
theorem TA.c5(h:TA X P T p M w):w.cell? ⟨p,5,none⟩=some (M.vw P):=let ⟨_,a,b⟩:=h.mem.tab;a.cell 5 b.2.2.2.2.2
theorem TM.yd{M:TM}{row kz n p m k:Nat}(h:(M.mn row kz n).S p m k):M.S p m k∨k=kz:=by
 rcases h with h|h|h|h|h|⟨i,hi,h⟩
 ·exact Or.inl (Or.inl h)
 ·exact Or.inl (Or.inr (Or.inl h))
 ·exact Or.inl (Or.inr (Or.inr (Or.inl h)))
 ·exact Or.inl (Or.inr (Or.inr (Or.inr (Or.inl h))))
 ·exact Or.inl (Or.inr (Or.inr (Or.inr (Or.inr (Or.inl h)))))
 ·simp only[TM.mn] at h;split at h
  ·exact Or.inr h
  ·exact Or.inl (Or.inr (Or.inr (Or.inr (Or.inr (Or.inr ⟨i,hi,h⟩)))))
theorem py {q row at_:Nat} (g:Gd X) (hX:Ext X w) (h:TA X P T p M w) (hr:row<P.m) (ha:at_<P.n) (hk:T.f row at_≠0) (hn:P.n<=1000) (hm:P.m<=1000) (hq1:1<=q) (hq2:q<=400) (Q:TQ P T q) :
    Calls prog 200 #[.pointer (some ⟨p,0,none⟩),.int .i64 row,.int .i64 at_] w fun e w'=>e = .returned (.tuple #[])/\Mv X w (M.S p P.m) w'/\∃ kz,w.heap.size<=kz/\TA X P (T.aG row at_) p (M.mn row kz P.n) w' :=
 (Ax P T p M row at_ q X w g hX h.up h.mem hr ha hk hn hm hq1 hq2 Q.c Q.f Q.wc Q.wf).mono fun e w' ⟨h1,h2,kz,h3,h4⟩ =>
  ⟨h1,h2,kz,h3,h4,fun k hk=>(TM.yd hk).elim (h.up k) (fun e=>by have:=hX.size;omega),fun k hk=>(TM.yd hk).elim (fun hs=>Nat.lt_of_lt_of_le (h.lt k hs) h2.size) (fun e=>by
   obtain⟨C,b,_⟩:=h4.j1 ae row hr;have:=b.lt;simp only[TM.mn,if_pos] at this;omega)⟩
end
end Go.Proofs.YtmahadmefplbnaaGreatDoor
