/- Part 28. -/
import Derived.Test.YtmahadmefplbnaaGreatDoorQVLB
import Derived.Test.YtmahadmefplbnaaGreatDoorQVL27
set_option maxRecDepth 100000
set_option maxHeartbeats 2000000
open Go.Proofs.Tryz
set_option linter.unusedSimpArgs false
set_option linter.unusedVariables false
namespace Go.Proofs.YtmahadmefplbnaaGreatDoor
open Go Go.RowKit
theorem RC{q:Rat}(h:0<q):0<q.num:=by
 have h1:=(Rat.lt_iff 0 q).1 h;simpa using h1
theorem IK{q:Rat}:q.num<0 ↔ q<0:=by rw[Rat.lt_iff];simp
theorem Sh{q:Rat}:0<q.num ↔ 0<q:=by rw[Rat.lt_iff];simp
theorem qaL{q:Rat}:((qs q).toList == [48])=decide (q=0):=by
 by_cases h:q=0
 ·rw[eR h];simp[h]
 ·rw[cu h];simp[h]
theorem FJ{q:Rat}(h:¬ 0<q):decide (0<q.num)=false:=by
 rw[decide_eq_false_iff_not];intro h';exact h ((Rat.lt_iff 0 q).2 (by simpa using h'))
def Rl(w:World)(v:Value)(m:Nat)(c:Nat->Rat)(vf:Nat->Value):Prop:=∃ (ao:Option Addr) (cap:Nat),v = .slice ao m cap/\m<=cap/\cap<=maxLen /\
 ∀ i,i<m->∃ lb,ao=some ⟨lb,0,none⟩/\w.cell? ⟨lb,i*2,none⟩=some (.string (qs (c i)))/\w.cell? ⟨lb,i*2+1,none⟩=some (vf i)
theorem Rl.ext{w w':World}{v:Value}{m:Nat}{c:Nat->Rat}{vf:Nat->Value}(h:Rl w v m c vf)(e:Ext w w'):Rl w' v m c vf:=by
 obtain⟨ao,cap,h1,h2,h3,h4⟩:=h;exact⟨ao,cap,h1,h2,h3,fun i hi=>let ⟨lb,e1,e2,e3⟩:=h4 i hi;⟨lb,e1,aC e e2,aC e e3⟩⟩
structure TR(P:LP)(T:bT)(w:World)(p:Nat)(vb vl vo vw:Value)(vf:Nat->Value):Prop where
 tab:∃ CP,ay w p CP 185/\CP[0]?=some (.int .i64 (P.n:Int))/\CP[1]?=some vb/\CP[2]?=some vl/\CP[3]?=some vo/\CP[4]?=some (.string (qs T.wc))/\CP[5]?=some vw
 b:Ri w vb P.m (fun i=>(T.b i:Nat))
 o:Ri w vo P.n (fun j=>(T.o j:Nat))
 l:Rl w vl P.m T.c vf
 wf:Rq w vw P.n T.wf
 f:∀ i,i<P.m->Rq w (vf i) P.n (T.f i)
theorem TR.ext{P:LP}{T:bT}{w w':World}{p:Nat}{vb vl vo vw:Value}{vf:Nat->Value}(h:TR P T w p vb vl vo vw vf)(e:Ext w w'):TR P T w' p vb vl vo vw vf :=
 ⟨let ⟨CP,a,b⟩:=h.tab;⟨CP,a.ext e,b⟩,h.b.ext e,h.o.ext e,h.l.ext e,h.wf.ext e,fun i hi=>(h.f i hi).ext e⟩
theorem NL{vs:Nat->Nat}{is:Nat->Bool}{k:Nat}(h:is k=false):qA vs is (k+1)=qA vs is k:=by rw[qA,if_neg (by simp[h])]
theorem KJ{vs:Nat->Nat}{is:Nat->Bool}{k:Nat}(h:is k=true)(e:qA vs is k=-1):qA vs is (k+1)=(k:Int):=by rw[qA,if_pos ⟨h,Or.inl ae⟩]
theorem NN{vs:Nat->Nat}{is:Nat->Bool}{k i:Nat}(h:is k=true)(e:qA vs is k=(i:Int))(hl:vs k<vs i):qA vs is (k+1)=(k:Int):=by rw[qA,if_pos ⟨h,Or.inr (by rw[e];exact hl)⟩]
theorem NM{vs:Nat->Nat}{is:Nat->Bool}{k i:Nat}(h:is k=true)(e:qA vs is k=(i:Int))(hl:¬ vs k<vs i):qA vs is (k+1)=(i:Int):=by
 rw[qA,if_neg (fun h'=>h'.2.elim (fun x=>ae) (fun x=>by rw[e] at x;exact hl x))];exact e
theorem Jz{w:World}{a:Addr}{i:Nat}{v:Value}(h:∃ b,(some a:Option Addr)=some b/\w.cell? (b.add i)=some v):w.cell? (a.add i)=some v:=by
 obtain⟨b,e,h⟩:=h;rw[Option.some.inj e];exact h
theorem cz{n:Nat}(p v:Nat)(r:Bool)(w:World){CP:Array Value}(hB:ay w p CP 185)(h0:CP[0]?=some (.int .i64 (n:Int)))(hr:decide (n<=v)=r):Calls prog 198 #[.pointer (some ⟨p,0,none⟩),.int .i64 (v:Int)] w (fun e w'=>e = .returned (.bool r)/\w=w'):=by
 have jd:=ai hB;have ep:=ai h0;have HR:=ai hr;clear hB h0 hr;go_enter func198,ntmps198;by_cases h1:n<=v
 ·obtain rfl:r=true:=by rw[← HR.o];simpa using h1
  have h2:(n:Int)<=(v:Int):=ae;have Hc:=jd.o.cell (0) ep.o;go_wp2;go_ret;exact⟨rfl,rfl⟩
 ·obtain rfl:r=false:=by rw[← HR.o];simpa using h1
  have h2:¬ (n:Int)<=(v:Int):=ae;have Hc:=jd.o.cell (0) ep.o;go_wp2;go_ret;exact⟨rfl,rfl⟩
theorem qcv(P:LP)(T:bT)(p:Nat)(vb vl vo vw:Value)(vf:Nat->Value)(w:World)(xb i:Nat)(CX:Array Value)(tx:TypeId)(r:Bool)(g:Gd w)(hT:TR P T w p vb vl vo vw vf)(bx:ay w xb CX tx)(x0:CX[0]?=some (.pointer (some ⟨p,0,none⟩)))(hi:i<P.m)(hr:(decide (P.n<=T.b i) && decide (T.c i<0))=r):Calls prog 202 #[.int .i64 (i:Int),.pointer (some ⟨xb,0,none⟩)] w (aZ w (.bool r)):=by
 have HG:=ai g;have sy:=ai bx;have kR:=ai x0;have HI:=ai hi;have HR:=ai hr;clear g bx x0 hi hr;obtain⟨CP,b1,p0⟩:=hT.tab;obtain⟨bo,bc,rfl,Cm,zU,hb⟩:=hT.b;obtain⟨Uf,lc,rfl,Ck,Cj,hl⟩:=hT.l;obtain⟨oo,oc,rfl,Ch,Cg,ho⟩:=hT.o;obtain⟨wo,j4,rfl,Cd,Cc,hw⟩:=hT.wf;have HF:=ai hT.f;have TB:=ai hT;have jd:=ai b1;have ep:Hid (_/\_/\_/\_/\_/\_):=ai p0;have yx:=ai hb;have tR:=ai hl;have JE:=ai ho;have PK:=ai hw;clear b1 p0 hb hl ho hw hT Cm zU Ck Cj Ch Cg Cd Cc;go_enter func202,ntmps202;have vi_:=HI.o;obtain⟨ba,rfl,tw⟩:=yx.o i HI.o;have HCb:=ai tw;clear tw;have vi_:=HI.o;obtain⟨la,rfl,pW,q7⟩:=tR.o i HI.o;have VE:=ai pW;have HCm:=ai q7;clear pW q7;by_cases h1:P.n<=T.b i
 ·have gQ:=ai h1;clear h1;go_wp2_with fail;refine aE [.val (.pointer (some ⟨p,0,none⟩)),.val (.pointer (some ⟨p,0,none⟩)),.val (.pointer (some ⟨p,0,none⟩)),.val (.pointer (some ⟨p,1,none⟩)),.val (.slice (some ba) P.m bc),.val (.int .i64 (i:Int)),.val (.pointer (some (ba.add i))),.val (.int .i64 (T.b i:Int)),.val (.bool true),.val (.bool true),.val (.pointer (some ⟨p,0,none⟩)),.val (.pointer (some ⟨p,0,none⟩)),.val (.pointer (some ⟨p,2,none⟩)),.val (.slice (some ⟨la,0,none⟩) P.m lc),.val (.int .i64 (i:Int)),.val (.pointer (some ⟨la,i*2,none⟩)),.val (.pointer (some ⟨la,i*2,none⟩)),.val (.string (qs (T.c i))),.val (.int .i64 ((T.c i).num.sign)),.val (.bool (decide ((T.c i).num<0))),.val (.bool (decide ((T.c i).num<0))),.val (.bool (decide ((T.c i).num<0)))] (fun L g W=>True) (S:=fun _=>False) ag ag ag (Mv.refl (Ext.refl w) (fun k h=>h.elim)) ?_ ?_ ?_ ?_ (fun fI w1 aK bW=>?_)
  ·exact fun _=>trivial
  ·exact fun _ _ _ _ h _=>h
  ·exact fun _ _ _ _ _ _ h=>h
  ·skip
   exact J2 (fun aw=>aw.is 1 (.pointer (some ⟨xb,0,none⟩))) (fun aw=>(aw.mv.aH sy.o (fun h=>h)).cell (0) kR.o)<|J2 (fun aw=>aw.is 1 (.pointer (some ⟨xb,0,none⟩))) (fun aw=>(aw.mv.aH sy.o (fun h=>h)).cell (0) kR.o)<|R1 1<|R1 2<|J2 (fun aw=>aw.val 3) (fun aw=>(aw.mv.aH jd.o (fun h=>h)).cell (1) ep.o.2.1)<|RI 0 (.int .i64 (i:Int))<|R2 4 5<|J2 (fun aw=>aw.val 6) (fun aw=>aC aw.mv.ext (HCb.o))<|M2 (fun aw=>aw.val 0) (fun aw=>aw.val 7) (fun aw=>cz (n:=P.n) p (T.b i) true _ (aw.mv.aH jd.o (fun h=>h)) ep.o.1 (by have:=gQ.out;simp;omega))<|R1 8<|J2 (fun aw=>aw.is 1 (.pointer (some ⟨xb,0,none⟩))) (fun aw=>(aw.mv.aH sy.o (fun h=>h)).cell (0) kR.o)<|R1 10<|R1 11<|J2 (fun aw=>aw.val 12) (fun aw=>(aw.mv.aH jd.o (fun h=>h)).cell (2) ep.o.2.2.1)<|RI 0 (.int .i64 (i:Int))<|R2 13 14<|R1 15<|J2 (fun aw=>aw.val 16) (fun aw=>aC aw.mv.ext (VE.o))<|M1 (fun aw=>aw.val 17) (fun _=>cr (T.c i) _)<|R1 18<|R2 9 19<|R1 20<|aN.nil
  simp only[gm,Ke.value,b7,Act.put,aq,au,av];have aD:Hid (Ext w w1):=ai aK.ext;clear aK bW;go_wp2;go_ret;exact⟨by rw[← HR.o];simp[gQ.out,IK],aD.o⟩
 ·have gQ:=ai h1;obtain rfl:r=false:=by rw[← HR.o];simp[h1]
  clear h1;go_wp2_with fail;refine aE [.val (.pointer (some ⟨p,0,none⟩)),.val (.pointer (some ⟨p,0,none⟩)),.val (.pointer (some ⟨p,0,none⟩)),.val (.pointer (some ⟨p,1,none⟩)),.val (.slice (some ba) P.m bc),.val (.int .i64 (i:Int)),.val (.pointer (some (ba.add i))),.val (.int .i64 (T.b i:Int)),.val (.bool false),.val (.bool false),.off,.off,.off,.off,.off,.off,.off,.off,.off,.off,.val (.bool false),.val (.bool false)] (fun L g W=>True) (S:=fun _=>False) ag ag ag (Mv.refl (Ext.refl w) (fun k h=>h.elim)) ?_ ?_ ?_ ?_ (fun fI w1 aK bW=>?_)
  ·exact fun _=>trivial
  ·exact fun _ _ _ _ h _=>h
  ·exact fun _ _ _ _ _ _ h=>h
  ·skip
   exact J2 (fun aw=>aw.is 1 (.pointer (some ⟨xb,0,none⟩))) (fun aw=>(aw.mv.aH sy.o (fun h=>h)).cell (0) kR.o)<|J2 (fun aw=>aw.is 1 (.pointer (some ⟨xb,0,none⟩))) (fun aw=>(aw.mv.aH sy.o (fun h=>h)).cell (0) kR.o)<|R1 1<|R1 2<|J2 (fun aw=>aw.val 3) (fun aw=>(aw.mv.aH jd.o (fun h=>h)).cell (1) ep.o.2.1)<|RI 0 (.int .i64 (i:Int))<|R2 4 5<|J2 (fun aw=>aw.val 6) (fun aw=>aC aw.mv.ext (HCb.o))<|M2 (fun aw=>aw.val 0) (fun aw=>aw.val 7) (fun aw=>cz (n:=P.n) p (T.b i) false _ (aw.mv.aH jd.o (fun h=>h)) ep.o.1 (by have:=gQ.out;simp;omega))<|R1 8<|RO<|RO<|RO<|RO<|RO<|RO<|RO<|RO<|RO<|RO<|J2 (fun aw=>aw.val 9) (fun aw=>aw.un 19)<|R1 20<|aN.nil
  simp only[gm,Ke.value,b7,Act.put,aq,au,av];have aD:Hid (Ext w w1):=ai aK.ext;clear aK bW;go_wp2;go_ret;exact⟨rfl,aD.o⟩
theorem qcu(P:LP)(T:bT)(p:Nat)(vb vl vo vw:Value)(vf:Nat->Value)(w:World)(xb j:Nat)(CX:Array Value)(tx:TypeId)(yb row:Nat)(CY:Array Value)(ty:TypeId)(r:Bool)(g:Gd w)(hT:TR P T w p vb vl vo vw vf)(bx:ay w xb CX tx)(x0:CX[0]?=some (.pointer (some ⟨p,0,none⟩)))(lC:ay w yb CY ty)(y0:CY[0]?=some (.int .i64 (row:Int)))(hrow:row<P.m)(hi:j<P.n)(hr:(decide (P.n<=T.o j) && decide (0<T.f row j))=r):Calls prog 203 #[.int .i64 (j:Int),.pointer (some ⟨xb,0,none⟩),.pointer (some ⟨yb,0,none⟩)] w (aZ w (.bool r)):=by
 have HG:=ai g;have sy:=ai bx;have kR:=ai x0;have HI:=ai hi;have HR:=ai hr;have HBy:=ai lC;have qhP:=ai y0;have BG:=ai hrow;clear g bx x0 hi hr lC y0 hrow;obtain⟨CP,b1,p0⟩:=hT.tab;obtain⟨bo,bc,rfl,Cm,zU,hb⟩:=hT.b;obtain⟨Uf,lc,rfl,Ck,Cj,hl⟩:=hT.l;obtain⟨oo,oc,rfl,Ch,Cg,ho⟩:=hT.o;obtain⟨wo,j4,rfl,Cd,Cc,hw⟩:=hT.wf;have HF:=ai hT.f;have TB:=ai hT;have jd:=ai b1;have ep:Hid (_/\_/\_/\_/\_/\_):=ai p0;have yx:=ai hb;have tR:=ai hl;have JE:=ai ho;have PK:=ai hw;clear b1 p0 hb hl ho hw hT Cm zU Ck Cj Ch Cg Cd Cc;go_enter func203,ntmps203;have vj_:=HI.o;obtain⟨oa,rfl,Cf⟩:=JE.o j HI.o;have VC:=ai Cf;clear Cf;have qi1:=BG.o;obtain⟨la,rfl,pW,q7⟩:=tR.o row BG.o;have VE:=ai pW;have HCm:=ai q7;clear pW q7;obtain⟨fo,eh,qW,_,_,wO⟩:=HF.o row BG.o;obtain⟨fa,rfl,tu⟩:=wO j HI.o;rw[qW] at HCm;have BS:=ai tu;clear tu wO qW;by_cases h1:P.n<=T.o j
 ·have gQ:=ai h1;clear h1;go_wp2_with fail;refine aE [.val (.pointer (some ⟨p,0,none⟩)),.val (.pointer (some ⟨p,0,none⟩)),.val (.pointer (some ⟨p,0,none⟩)),.val (.pointer (some ⟨p,3,none⟩)),.val (.slice (some oa) P.n oc),.val (.int .i64 (j:Int)),.val (.pointer (some (oa.add j))),.val (.int .i64 (T.o j:Int)),.val (.bool true),.val (.bool true),.val (.pointer (some ⟨p,0,none⟩)),.val (.pointer (some ⟨p,0,none⟩)),.val (.pointer (some ⟨p,2,none⟩)),.val (.slice (some ⟨la,0,none⟩) P.m lc),.val (.int .i64 (row:Int)),.val (.pointer (some ⟨la,row*2,none⟩)),.val (.pointer (some ⟨la,row*2+1,none⟩)),.val (.slice (some fa) P.n eh),.val (.int .i64 (j:Int)),.val (.pointer (some (fa.add j))),.val (.string (qs (T.f row j))),.val (.int .i64 ((T.f row j).num.sign)),.val (.bool (decide (0<(T.f row j).num))),.val (.bool (decide (0<(T.f row j).num))),.val (.bool (decide (0<(T.f row j).num)))] (fun L g W=>True) (S:=fun _=>False) ag ag ag (Mv.refl (Ext.refl w) (fun k h=>h.elim)) ?_ ?_ ?_ ?_ (fun fI w1 aK bW=>?_)
  ·exact fun _=>trivial
  ·exact fun _ _ _ _ h _=>h
  ·exact fun _ _ _ _ _ _ h=>h
  ·skip
   exact J2 (fun aw=>aw.is 1 (.pointer (some ⟨xb,0,none⟩))) (fun aw=>(aw.mv.aH sy.o (fun h=>h)).cell (0) kR.o)<|J2 (fun aw=>aw.is 1 (.pointer (some ⟨xb,0,none⟩))) (fun aw=>(aw.mv.aH sy.o (fun h=>h)).cell (0) kR.o)<|R1 1<|R1 2<|J2 (fun aw=>aw.val 3) (fun aw=>(aw.mv.aH jd.o (fun h=>h)).cell (3) ep.o.2.2.2.1)<|RI 0 (.int .i64 (j:Int))<|R2 4 5<|J2 (fun aw=>aw.val 6) (fun aw=>aC aw.mv.ext (VC.o))<|M2 (fun aw=>aw.val 0) (fun aw=>aw.val 7) (fun aw=>cz (n:=P.n) p (T.o j) true _ (aw.mv.aH jd.o (fun h=>h)) ep.o.1 (by have:=gQ.out;simp;omega))<|R1 8<|J2 (fun aw=>aw.is 1 (.pointer (some ⟨xb,0,none⟩))) (fun aw=>(aw.mv.aH sy.o (fun h=>h)).cell (0) kR.o)<|R1 10<|R1 11<|J2 (fun aw=>aw.val 12) (fun aw=>(aw.mv.aH jd.o (fun h=>h)).cell (2) ep.o.2.2.1)<|J2 (fun aw=>aw.is 2 (.pointer (some ⟨yb,0,none⟩))) (fun aw=>(aw.mv.aH HBy.o (fun h=>h)).cell (0) qhP.o)<|R2 13 14<|R1 15<|J2 (fun aw=>aw.val 16) (fun aw=>aC aw.mv.ext (HCm.o))<|RI 0 (.int .i64 (j:Int))<|R2 17 18<|J2 (fun aw=>aw.val 19) (fun aw=>aC aw.mv.ext (BS.o))<|M1 (fun aw=>aw.val 20) (fun _=>cr (T.f row j) _)<|R1 21<|R2 9 22<|R1 23<|aN.nil
  simp only[gm,Ke.value,b7,Act.put,aq,au,av];have aD:Hid (Ext w w1):=ai aK.ext;clear aK bW;go_wp2;go_ret;exact⟨by rw[← HR.o];simp[gQ.out,Sh],aD.o⟩
 ·have gQ:=ai h1;obtain rfl:r=false:=by rw[← HR.o];simp[h1]
  clear h1;go_wp2_with fail;refine aE [.val (.pointer (some ⟨p,0,none⟩)),.val (.pointer (some ⟨p,0,none⟩)),.val (.pointer (some ⟨p,0,none⟩)),.val (.pointer (some ⟨p,3,none⟩)),.val (.slice (some oa) P.n oc),.val (.int .i64 (j:Int)),.val (.pointer (some (oa.add j))),.val (.int .i64 (T.o j:Int)),.val (.bool false),.val (.bool false),.off,.off,.off,.off,.off,.off,.off,.off,.off,.off,.off,.off,.off,.val (.bool false),.val (.bool false)] (fun L g W=>True) (S:=fun _=>False) ag ag ag (Mv.refl (Ext.refl w) (fun k h=>h.elim)) ?_ ?_ ?_ ?_ (fun fI w1 aK bW=>?_)
  ·exact fun _=>trivial
  ·exact fun _ _ _ _ h _=>h
  ·exact fun _ _ _ _ _ _ h=>h
  ·skip
   exact J2 (fun aw=>aw.is 1 (.pointer (some ⟨xb,0,none⟩))) (fun aw=>(aw.mv.aH sy.o (fun h=>h)).cell (0) kR.o)<|J2 (fun aw=>aw.is 1 (.pointer (some ⟨xb,0,none⟩))) (fun aw=>(aw.mv.aH sy.o (fun h=>h)).cell (0) kR.o)<|R1 1<|R1 2<|J2 (fun aw=>aw.val 3) (fun aw=>(aw.mv.aH jd.o (fun h=>h)).cell (3) ep.o.2.2.2.1)<|RI 0 (.int .i64 (j:Int))<|R2 4 5<|J2 (fun aw=>aw.val 6) (fun aw=>aC aw.mv.ext (VC.o))<|M2 (fun aw=>aw.val 0) (fun aw=>aw.val 7) (fun aw=>cz (n:=P.n) p (T.o j) false _ (aw.mv.aH jd.o (fun h=>h)) ep.o.1 (by have:=gQ.out;simp;omega))<|R1 8<|RO<|RO<|RO<|RO<|RO<|RO<|RO<|RO<|RO<|RO<|RO<|RO<|RO<|J2 (fun aw=>aw.val 9) (fun aw=>aw.un 22)<|R1 23<|aN.nil
  simp only[gm,Ke.value,b7,Act.put,aq,au,av];have aD:Hid (Ext w w1):=ai aK.ext;clear aK bW;go_wp2;go_ret;exact⟨rfl,aD.o⟩
theorem qct(P:LP)(T:bT)(p:Nat)(vb vl vo vw:Value)(vf:Nat->Value)(w:World)(xb j:Nat)(CX:Array Value)(tx:TypeId)(r:Bool)(g:Gd w)(hT:TR P T w p vb vl vo vw vf)(bx:ay w xb CX tx)(x0:CX[0]?=some (.pointer (some ⟨p,0,none⟩)))(hi:j<P.n)(hr:(!decide (P.n<=T.o j) && decide (T.wf j≠0))=r):Calls prog 204 #[.int .i64 (j:Int),.pointer (some ⟨xb,0,none⟩)] w (aZ w (.bool r)):=by
 have HG:=ai g;have sy:=ai bx;have kR:=ai x0;have HI:=ai hi;have HR:=ai hr;clear g bx x0 hi hr;obtain⟨CP,b1,p0⟩:=hT.tab;obtain⟨bo,bc,rfl,Cm,zU,hb⟩:=hT.b;obtain⟨Uf,lc,rfl,Ck,Cj,hl⟩:=hT.l;obtain⟨oo,oc,rfl,Ch,Cg,ho⟩:=hT.o;obtain⟨wo,j4,rfl,Cd,Cc,hw⟩:=hT.wf;have HF:=ai hT.f;have TB:=ai hT;have jd:=ai b1;have ep:Hid (_/\_/\_/\_/\_/\_):=ai p0;have yx:=ai hb;have tR:=ai hl;have JE:=ai ho;have PK:=ai hw;clear b1 p0 hb hl ho hw hT Cm zU Ck Cj Ch Cg Cd Cc;go_enter func204,ntmps204;have vj_:=HI.o;obtain⟨oa,rfl,Cf⟩:=JE.o j HI.o;have VC:=ai Cf;clear Cf;obtain⟨wa,rfl,JX⟩:=PK.o j HI.o;have HCw:=ai JX;clear JX;by_cases h1:P.n<=T.o j
 ·have gQ:=ai h1;obtain rfl:r=false:=by rw[← HR.o];simp[h1]
  clear h1;go_wp2_with fail;refine aE [.val (.pointer (some ⟨p,0,none⟩)),.val (.pointer (some ⟨p,0,none⟩)),.val (.pointer (some ⟨p,0,none⟩)),.val (.pointer (some ⟨p,3,none⟩)),.val (.slice (some oa) P.n oc),.val (.int .i64 (j:Int)),.val (.pointer (some (oa.add j))),.val (.int .i64 (T.o j:Int)),.val (.bool true),.val (.bool false),.val (.bool false),.off,.off,.off,.off,.off,.off,.off,.off,.off,.val (.bool false),.val (.bool false)] (fun L g W=>True) (S:=fun _=>False) ag ag ag (Mv.refl (Ext.refl w) (fun k h=>h.elim)) ?_ ?_ ?_ ?_ (fun fI w1 aK bW=>?_)
  ·exact fun _=>trivial
  ·exact fun _ _ _ _ h _=>h
  ·exact fun _ _ _ _ _ _ h=>h
  ·skip
   exact J2 (fun aw=>aw.is 1 (.pointer (some ⟨xb,0,none⟩))) (fun aw=>(aw.mv.aH sy.o (fun h=>h)).cell (0) kR.o)<|J2 (fun aw=>aw.is 1 (.pointer (some ⟨xb,0,none⟩))) (fun aw=>(aw.mv.aH sy.o (fun h=>h)).cell (0) kR.o)<|R1 1<|R1 2<|J2 (fun aw=>aw.val 3) (fun aw=>(aw.mv.aH jd.o (fun h=>h)).cell (3) ep.o.2.2.2.1)<|RI 0 (.int .i64 (j:Int))<|R2 4 5<|J2 (fun aw=>aw.val 6) (fun aw=>aC aw.mv.ext (VC.o))<|M2 (fun aw=>aw.val 0) (fun aw=>aw.val 7) (fun aw=>cz (n:=P.n) p (T.o j) true _ (aw.mv.aH jd.o (fun h=>h)) ep.o.1 (by have:=gQ.out;simp;omega))<|R1 8<|R1 9<|RO<|RO<|RO<|RO<|RO<|RO<|RO<|RO<|RO<|J2 (fun aw=>aw.val 10) (fun aw=>aw.un 19)<|R1 20<|aN.nil
  simp only[gm,Ke.value,b7,Act.put,aq,au,av];have aD:Hid (Ext w w1):=ai aK.ext;clear aK bW;go_wp2;go_ret;exact⟨rfl,aD.o⟩
 ·have gQ:=ai h1;clear h1;go_wp2_with fail;refine aE [.val (.pointer (some ⟨p,0,none⟩)),.val (.pointer (some ⟨p,0,none⟩)),.val (.pointer (some ⟨p,0,none⟩)),.val (.pointer (some ⟨p,3,none⟩)),.val (.slice (some oa) P.n oc),.val (.int .i64 (j:Int)),.val (.pointer (some (oa.add j))),.val (.int .i64 (T.o j:Int)),.val (.bool false),.val (.bool true),.val (.bool true),.val (.pointer (some ⟨p,0,none⟩)),.val (.pointer (some ⟨p,0,none⟩)),.val (.pointer (some ⟨p,4,none⟩)),.val (.pointer (some ⟨p,5,none⟩)),.val (.slice (some wa) P.n j4),.val (.int .i64 (j:Int)),.val (.pointer (some (wa.add j))),.val (.string (qs (T.wf j))),.val (.bool (!((qs (T.wf j)).toList == [48]))),.val (.bool (!((qs (T.wf j)).toList == [48]))),.val (.bool (!((qs (T.wf j)).toList == [48])))] (fun L g W=>True) (S:=fun _=>False) ag ag ag (Mv.refl (Ext.refl w) (fun k h=>h.elim)) ?_ ?_ ?_ ?_ (fun fI w1 aK bW=>?_)
  ·exact fun _=>trivial
  ·exact fun _ _ _ _ h _=>h
  ·exact fun _ _ _ _ _ _ h=>h
  ·skip
   exact J2 (fun aw=>aw.is 1 (.pointer (some ⟨xb,0,none⟩))) (fun aw=>(aw.mv.aH sy.o (fun h=>h)).cell (0) kR.o)<|J2 (fun aw=>aw.is 1 (.pointer (some ⟨xb,0,none⟩))) (fun aw=>(aw.mv.aH sy.o (fun h=>h)).cell (0) kR.o)<|R1 1<|R1 2<|J2 (fun aw=>aw.val 3) (fun aw=>(aw.mv.aH jd.o (fun h=>h)).cell (3) ep.o.2.2.2.1)<|RI 0 (.int .i64 (j:Int))<|R2 4 5<|J2 (fun aw=>aw.val 6) (fun aw=>aC aw.mv.ext (VC.o))<|M2 (fun aw=>aw.val 0) (fun aw=>aw.val 7) (fun aw=>cz (n:=P.n) p (T.o j) false _ (aw.mv.aH jd.o (fun h=>h)) ep.o.1 (by have:=gQ.out;simp;omega))<|R1 8<|R1 9<|J2 (fun aw=>aw.is 1 (.pointer (some ⟨xb,0,none⟩))) (fun aw=>(aw.mv.aH sy.o (fun h=>h)).cell (0) kR.o)<|R1 11<|R1 12<|R1 13<|J2 (fun aw=>aw.val 14) (fun aw=>(aw.mv.aH jd.o (fun h=>h)).cell (5) ep.o.2.2.2.2.2)<|RI 0 (.int .i64 (j:Int))<|R2 15 16<|J2 (fun aw=>aw.val 17) (fun aw=>aC aw.mv.ext (HCw.o))<|R1 18<|R2 10 19<|R1 20<|aN.nil
  simp only[gm,Ke.value,b7,Act.put,aq,au,av];have aD:Hid (Ext w w1):=ai aK.ext;clear aK bW;go_wp2;go_ret;exact⟨by rw[← HR.o];simp[gQ.out,qaL],aD.o⟩
theorem qcs(P:LP)(T:bT)(p:Nat)(vb vl vo vw:Value)(vf:Nat->Value)(w:World)(xb j:Nat)(CX:Array Value)(tx:TypeId)(r:Bool)(g:Gd w)(hT:TR P T w p vb vl vo vw vf)(bx:ay w xb CX tx)(x0:CX[0]?=some (.pointer (some ⟨p,0,none⟩)))(hi:j<P.n)(hr:(decide (P.n<=T.o j) && decide (T.wf j<0))=r):Calls prog 205 #[.int .i64 (j:Int),.pointer (some ⟨xb,0,none⟩)] w (aZ w (.bool r)):=by
 have HG:=ai g;have sy:=ai bx;have kR:=ai x0;have HI:=ai hi;have HR:=ai hr;clear g bx x0 hi hr;obtain⟨CP,b1,p0⟩:=hT.tab;obtain⟨bo,bc,rfl,Cm,zU,hb⟩:=hT.b;obtain⟨Uf,lc,rfl,Ck,Cj,hl⟩:=hT.l;obtain⟨oo,oc,rfl,Ch,Cg,ho⟩:=hT.o;obtain⟨wo,j4,rfl,Cd,Cc,hw⟩:=hT.wf;have HF:=ai hT.f;have TB:=ai hT;have jd:=ai b1;have ep:Hid (_/\_/\_/\_/\_/\_):=ai p0;have yx:=ai hb;have tR:=ai hl;have JE:=ai ho;have PK:=ai hw;clear b1 p0 hb hl ho hw hT Cm zU Ck Cj Ch Cg Cd Cc;go_enter func205,ntmps205;have vj_:=HI.o;obtain⟨oa,rfl,Cf⟩:=JE.o j HI.o;have VC:=ai Cf;clear Cf;obtain⟨wa,rfl,JX⟩:=PK.o j HI.o;have HCw:=ai JX;clear JX;by_cases h1:P.n<=T.o j
 ·have gQ:=ai h1;clear h1;go_wp2_with fail;refine aE [.val (.pointer (some ⟨p,0,none⟩)),.val (.pointer (some ⟨p,0,none⟩)),.val (.pointer (some ⟨p,0,none⟩)),.val (.pointer (some ⟨p,3,none⟩)),.val (.slice (some oa) P.n oc),.val (.int .i64 (j:Int)),.val (.pointer (some (oa.add j))),.val (.int .i64 (T.o j:Int)),.val (.bool true),.val (.bool true),.val (.pointer (some ⟨p,0,none⟩)),.val (.pointer (some ⟨p,0,none⟩)),.val (.pointer (some ⟨p,4,none⟩)),.val (.pointer (some ⟨p,5,none⟩)),.val (.slice (some wa) P.n j4),.val (.int .i64 (j:Int)),.val (.pointer (some (wa.add j))),.val (.string (qs (T.wf j))),.val (.int .i64 ((T.wf j).num.sign)),.val (.bool (decide ((T.wf j).num<0))),.val (.bool (decide ((T.wf j).num<0))),.val (.bool (decide ((T.wf j).num<0)))] (fun L g W=>True) (S:=fun _=>False) ag ag ag (Mv.refl (Ext.refl w) (fun k h=>h.elim)) ?_ ?_ ?_ ?_ (fun fI w1 aK bW=>?_)
  ·exact fun _=>trivial
  ·exact fun _ _ _ _ h _=>h
  ·exact fun _ _ _ _ _ _ h=>h
  ·skip
   exact J2 (fun aw=>aw.is 1 (.pointer (some ⟨xb,0,none⟩))) (fun aw=>(aw.mv.aH sy.o (fun h=>h)).cell (0) kR.o)<|J2 (fun aw=>aw.is 1 (.pointer (some ⟨xb,0,none⟩))) (fun aw=>(aw.mv.aH sy.o (fun h=>h)).cell (0) kR.o)<|R1 1<|R1 2<|J2 (fun aw=>aw.val 3) (fun aw=>(aw.mv.aH jd.o (fun h=>h)).cell (3) ep.o.2.2.2.1)<|RI 0 (.int .i64 (j:Int))<|R2 4 5<|J2 (fun aw=>aw.val 6) (fun aw=>aC aw.mv.ext (VC.o))<|M2 (fun aw=>aw.val 0) (fun aw=>aw.val 7) (fun aw=>cz (n:=P.n) p (T.o j) true _ (aw.mv.aH jd.o (fun h=>h)) ep.o.1 (by have:=gQ.out;simp;omega))<|R1 8<|J2 (fun aw=>aw.is 1 (.pointer (some ⟨xb,0,none⟩))) (fun aw=>(aw.mv.aH sy.o (fun h=>h)).cell (0) kR.o)<|R1 10<|R1 11<|R1 12<|J2 (fun aw=>aw.val 13) (fun aw=>(aw.mv.aH jd.o (fun h=>h)).cell (5) ep.o.2.2.2.2.2)<|RI 0 (.int .i64 (j:Int))<|R2 14 15<|J2 (fun aw=>aw.val 16) (fun aw=>aC aw.mv.ext (HCw.o))<|M1 (fun aw=>aw.val 17) (fun _=>cr (T.wf j) _)<|R1 18<|R2 9 19<|R1 20<|aN.nil
  simp only[gm,Ke.value,b7,Act.put,aq,au,av];have aD:Hid (Ext w w1):=ai aK.ext;clear aK bW;go_wp2;go_ret;exact⟨by rw[← HR.o];simp[gQ.out,IK],aD.o⟩
 ·have gQ:=ai h1;obtain rfl:r=false:=by rw[← HR.o];simp[h1]
  clear h1;go_wp2_with fail;refine aE [.val (.pointer (some ⟨p,0,none⟩)),.val (.pointer (some ⟨p,0,none⟩)),.val (.pointer (some ⟨p,0,none⟩)),.val (.pointer (some ⟨p,3,none⟩)),.val (.slice (some oa) P.n oc),.val (.int .i64 (j:Int)),.val (.pointer (some (oa.add j))),.val (.int .i64 (T.o j:Int)),.val (.bool false),.val (.bool false),.off,.off,.off,.off,.off,.off,.off,.off,.off,.off,.val (.bool false),.val (.bool false)] (fun L g W=>True) (S:=fun _=>False) ag ag ag (Mv.refl (Ext.refl w) (fun k h=>h.elim)) ?_ ?_ ?_ ?_ (fun fI w1 aK bW=>?_)
  ·exact fun _=>trivial
  ·exact fun _ _ _ _ h _=>h
  ·exact fun _ _ _ _ _ _ h=>h
  ·skip
   exact J2 (fun aw=>aw.is 1 (.pointer (some ⟨xb,0,none⟩))) (fun aw=>(aw.mv.aH sy.o (fun h=>h)).cell (0) kR.o)<|J2 (fun aw=>aw.is 1 (.pointer (some ⟨xb,0,none⟩))) (fun aw=>(aw.mv.aH sy.o (fun h=>h)).cell (0) kR.o)<|R1 1<|R1 2<|J2 (fun aw=>aw.val 3) (fun aw=>(aw.mv.aH jd.o (fun h=>h)).cell (3) ep.o.2.2.2.1)<|RI 0 (.int .i64 (j:Int))<|R2 4 5<|J2 (fun aw=>aw.val 6) (fun aw=>aC aw.mv.ext (VC.o))<|M2 (fun aw=>aw.val 0) (fun aw=>aw.val 7) (fun aw=>cz (n:=P.n) p (T.o j) false _ (aw.mv.aH jd.o (fun h=>h)) ep.o.1 (by have:=gQ.out;simp;omega))<|R1 8<|RO<|RO<|RO<|RO<|RO<|RO<|RO<|RO<|RO<|RO<|J2 (fun aw=>aw.val 9) (fun aw=>aw.un 19)<|R1 20<|aN.nil
  simp only[gm,Ke.value,b7,Act.put,aq,au,av];have aD:Hid (Ext w w1):=ai aK.ext;clear aK bW;go_wp2;go_ret;exact⟨rfl,aD.o⟩
theorem uE(vs:Nat->Nat)(is:Nat->Bool)(n fn:Nat)(cp:Array Value)(w:World)(ao_:Option Addr)(ac:Nat)(ha:∀ i,i<n->∃ a,ao_=some a/\w.cell? (a.add i)=some (.int .i64 (vs i:Nat)))(nU:∀ W,Ext w W->∀ k:Nat,k<n->Calls prog fn (#[.int .i64 (k:Int)] ++ cp) W (aZ W (.bool (is k))))(hm:n<=1000000)(hcf:∀ a_ W,(callFunc fn a_).run prog W = .ok (.enter fn a_) W):Calls prog 201 #[.slice ao_ n ac,.func (.func fn) #[] cp] w (aZ w (.int .i64 (qA vs is n))):=by
 have HA:=ai ha;have zJ:=ai nU;clear ha nU;go_enter func201,ntmps201;go_wp2_with fail;go_loopw [10,5] (fun bY qU wx=>∃ k:Nat,bY = .int .i64 k/\qU = .int .i64 (qA vs is k)/\k<=n/\Hid (Ext w wx)) (fun bY qU _=>n-(intOf bY).toNat)
 case atStart=>exact⟨0,rfl,rfl,Nat.zero_le _,ai (Ext.refl w)⟩
 case round =>
  rename World=>w1
  obtain⟨k,rfl,rfl,hk,zE⟩:=hrel;have aD:Hid (Ext w w1):=zE;clear zE;by_cases aP:k<n
  ·have fj:(k:Int)<(n:Int):=ae;obtain⟨aa,rfl,za_⟩:=HA.o k aP;have HCa:=ai za_;clear za_;have HA1:=ai (fun i (hi:i<n)=>HA.o i hi);rcases oi vs is k with⟨e0,z0⟩|⟨i0,z1,e0,z2⟩
   ·rw[e0];have HE:=ai e0;clear e0 z0;by_cases his:is k=true
    ·have lI:=ai his;clear his;have Bv:=aC aD.o (HCa.o);go_wp2_with fail;refine((lI.o▸zJ.o _ aD.o k aP)).mono ?_;rintro e w2 ⟨rfl,e2⟩;have aM:=ai (aD.o.trans e2);clear e2 Bv;go_wp2_with fail;go_roundw
     case rel=>exact⟨k+1,by go_num,by rw[KJ lI.o HE.o],ae,ai aM.o⟩
     case measure=>simp[intOf];omega
    ·have lI:=ai (Bool.not_eq_true _▸his:is k=false);clear his;have Bv:=aC aD.o (HCa.o);go_wp2_with fail;refine((lI.o▸zJ.o _ aD.o k aP)).mono ?_;rintro e w2 ⟨rfl,e2⟩;have aM:=ai (aD.o.trans e2);clear e2 Bv;go_wp2_with fail;go_roundw
     case rel=>exact⟨k+1,by go_num,by rw[NL lI.o,HE.o],ae,ai aM.o⟩
     case measure=>simp[intOf];omega
   ·rw[e0];have HE:=ai e0;have hi0:=z1;clear e0 z1 z2;by_cases his:is k=true
    ·have lI:=ai his;clear his;have dX:¬ (i0:Int)<0:=ae;have hi2:(i0:Int)<(n:Int):=ae;have HCi:=ai (Jz (HA1.o i0 ae));by_cases hle:vs k<vs i0
     ·have hl2:((vs k:Nat):Int)<((vs i0:Nat):Int):=ae;have qO:=ai hle;clear hle;have Bv:=aC aD.o (HCa.o);go_wp2_with fail;refine((lI.o▸zJ.o _ aD.o k aP)).mono ?_;rintro e w2 ⟨rfl,e2⟩;have aM:=ai (aD.o.trans e2);clear e2 Bv;have qcA:=aC aM.o (HCi.o);go_wp2_with fail;go_roundw
      case rel=>exact⟨k+1,by go_num,by rw[NN lI.o HE.o qO.o],ae,ai aM.o⟩
      case measure=>simp[intOf];omega
     ·have hl2:¬ ((vs k:Nat):Int)<((vs i0:Nat):Int):=ae;have qO:=ai hle;clear hle;have Bv:=aC aD.o (HCa.o);go_wp2_with fail;refine((lI.o▸zJ.o _ aD.o k aP)).mono ?_;rintro e w2 ⟨rfl,e2⟩;have aM:=ai (aD.o.trans e2);clear e2 Bv;have qcA:=aC aM.o (HCi.o);go_wp2_with fail;go_roundw
      case rel=>exact⟨k+1,by go_num,by rw[NM lI.o HE.o qO.o],ae,ai aM.o⟩
      case measure=>simp[intOf];omega
    ·have lI:=ai (Bool.not_eq_true _▸his:is k=false);clear his;have Bv:=aC aD.o (HCa.o);go_wp2_with fail;refine((lI.o▸zJ.o _ aD.o k aP)).mono ?_;rintro e w2 ⟨rfl,e2⟩;have aM:=ai (aD.o.trans e2);clear e2 Bv;go_wp2_with fail;go_roundw
     case rel=>exact⟨k+1,by go_num,by rw[NL lI.o,HE.o],ae,ai aM.o⟩
     case measure=>simp[intOf];omega
  ·have eY:k=n:=ae;have kx:¬ (k:Int)<(n:Int):=ae;rw[show qA vs is k=qA vs is n from by rw[eY]];go_wp2;go_ret;exact⟨rfl,aD.o⟩
section
variable {P:LP} {T:bT} {p:Nat} {M:TM} {w w' X:World}
theorem Bw.map(h:Bw P T p M w)(f:∀ k C t,M.S p P.m k->ay w k C t->ay w' k C t):Bw P T p M w' where
 tab:=let ⟨C,a,b⟩:=h.tab;⟨C,f _ _ _ (Or.inl rfl) a,b⟩
 qY:=fun k=>let ⟨C,a,b⟩:=h.qY k;⟨C,f _ _ _ (Or.inr (Or.inl rfl)) a,b⟩
 LO:=fun k=>let ⟨C,a,b⟩:=h.LO k;⟨C,f _ _ _ (Or.inr (Or.inr (Or.inl rfl))) a,b⟩
 oth:=fun k=>let ⟨C,a,b⟩:=h.oth k;⟨C,f _ _ _ (Or.inr (Or.inr (Or.inr (Or.inl rfl)))) a,b⟩
 wor:=fun k=>let ⟨C,a,b⟩:=h.wor k;⟨C,f _ _ _ (Or.inr (Or.inr (Or.inr (Or.inr (Or.inl rfl))))) a,b⟩
 r8:=fun k i hi=>let ⟨C,a,b⟩:=h.r8 k i hi;⟨C,f _ _ _ (Or.inr (Or.inr (Or.inr (Or.inr (Or.inr ⟨i,hi,rfl⟩))))) a,b⟩
 inj:=h.inj
 fw:=h.fw
 bo:=h.bo
 caps:=h.caps
theorem ID{n k cap:Nat}{x:Option Addr}{t:TypeId}{g:Nat->Value}(hc:n<=cap/\cap<=maxLen)(h:0<n->∃ C,ay w k C t/\∀ i,i<n->C[i]?=some (g i)):Rd w (.slice (oa n k x) n cap) n g :=
 ⟨_,_,rfl,hc.1,hc.2,fun i hi=>⟨⟨k,0,none⟩,lL ae,by
  obtain⟨C,a,b⟩:=h ae;have e:(⟨k,0,none⟩:Addr).add i=⟨k,i,none⟩:=by unfold Addr.add;split <;> simp_all
  rw[e];exact a.cell i (b i hi)⟩⟩
def TM.vb(M:TM)(P:LP):Value:=.slice (oa P.m M.bb M.bx) P.m M.bc
def TM.vl(M:TM)(P:LP):Value:=.slice (oa P.m M.lb M.lx) P.m M.lc
def TM.vo(M:TM)(P:LP):Value:=.slice (oa P.n M.ob M.ox) P.n M.oc
def TM.vw(M:TM)(P:LP):Value:=.slice (oa P.n M.wb M.wx) P.n M.j4
def TM.vf(M:TM)(P:LP)(i:Nat):Value:=.slice (oa P.n (M.fb i) (M.fx i)) P.n (M.fc i)
theorem Bw.tr(h:Bw P T p M w):TR P T w p (M.vb P) (M.vl P) (M.vo P) (M.vw P) (M.vf P) where
 tab:=let ⟨C,a,b⟩:=h.tab;⟨C,a,b⟩
 b:=ID h.caps.b h.qY
 o:=ID h.caps.o h.oth
 l:=⟨_,_,rfl,h.caps.l.1,h.caps.l.2,fun i hi=>let ⟨C,a,b⟩:=h.LO ae;⟨M.lb,lL ae,a.cell _ (b i hi).1,a.cell _ (b i hi).2⟩⟩
 wf:=ID h.caps.w h.wor
 f:=fun i hi=>ID (h.caps.f i hi) (fun hn=>let ⟨C,a,b⟩:=h.r8 hn i hi;⟨C,a,b⟩)
structure TA(X:World)(P:LP)(T:bT)(p:Nat)(M:TM)(w:World):Prop where
 mem:Bw P T p M w
 up:∀ k,M.S p P.m k->X.heap.size<=k
 lt:∀ k,M.S p P.m k->k<w.heap.size
theorem TA.ext(h:TA X P T p M w)(e:Ext w w'):TA X P T p M w':=⟨h.mem.map fun _ _ _ _ b=>b.ext e,h.up,fun k hk=>Nat.lt_of_lt_of_le (h.lt k hk) e.size⟩
theorem TA.alloc(h:TA X P T p M w)(o:Obj):TA X P T p M (w.alloc o):=h.ext ((Ext.refl _).alloc o)
theorem TA.drew(h:TA X P T p M w):TA X P T p M w.drew:=h.ext (Ext.refl _).drew
theorem TA.other(h:TA X P T p M w){a:Addr}(u:Value)(hk:∀ k,M.S p P.m k->k≠a.block):TA X P T p M (w.setCell a u):=⟨h.mem.map fun k _ _ hs b=>b.other u (hk k hs),h.up,fun k hk=>by rw[World.size_setCell];exact h.lt k hk⟩
theorem TA.mv{Y:World}{S:Nat->Prop}(h:TA X P T p M w)(m:Mv Y w S w')(hs:∀ k,M.S p P.m k->¬ S k):TA X P T p M w':=⟨h.mem.map fun k _ _ hk b=>m.aH b (hs k hk),h.up,fun k hk=>Nat.lt_of_lt_of_le (h.lt k hk) m.size⟩
theorem TA.ne(h:TA X P T p M w){b:Nat}(hb:w.heap.size<=b):∀ k,M.S p P.m k->k≠b:=fun k hk e=>by have:=h.lt k hk;omega
theorem TA.tr(h:TA X P T p M w):TR P T w p (M.vb P) (M.vl P) (M.vo P) (M.vw P) (M.vf P):=h.mem.tr
theorem TA.c0(h:TA X P T p M w):w.cell? ⟨p,0,none⟩=some (.int .i64 (P.n:Int)):=let ⟨_,a,b⟩:=h.mem.tab;a.cell 0 b.1
theorem TA.c1(h:TA X P T p M w):w.cell? ⟨p,1,none⟩=some (M.vb P):=let ⟨_,a,b⟩:=h.mem.tab;a.cell 1 b.2.1
theorem TA.c2(h:TA X P T p M w):w.cell? ⟨p,2,none⟩=some (M.vl P):=let ⟨_,a,b⟩:=h.mem.tab;a.cell 2 b.2.2.1
theorem TA.c3(h:TA X P T p M w):w.cell? ⟨p,3,none⟩=some (M.vo P):=let ⟨_,a,b⟩:=h.mem.tab;a.cell 3 b.2.2.2.1
theorem TA.c4(h:TA X P T p M w):w.cell? ⟨p,4,none⟩=some (.string (qs T.wc)):=let ⟨_,a,b⟩:=h.mem.tab;a.cell 4 b.2.2.2.2.1
theorem TA.c5(h:TA X P T p M w):w.cell? ⟨p,5,none⟩=some (M.vw P):=let ⟨_,a,b⟩:=h.mem.tab;a.cell 5 b.2.2.2.2.2
theorem TM.Np{M:TM}{row kz n p m k:Nat}(h:(M.vU row kz n).S p m k):M.S p m k∨k=kz:=by
 rcases h with h|h|h|h|h|⟨i,hi,h⟩
 ·exact Or.inl (Or.inl h)
 ·exact Or.inl (Or.inr (Or.inl h))
 ·exact Or.inl (Or.inr (Or.inr (Or.inl h)))
 ·exact Or.inl (Or.inr (Or.inr (Or.inr (Or.inl h))))
 ·exact Or.inl (Or.inr (Or.inr (Or.inr (Or.inr (Or.inl h)))))
 ·simp only[TM.vU] at h;split at h
  ·exact Or.inr h
  ·exact Or.inl (Or.inr (Or.inr (Or.inr (Or.inr (Or.inr ⟨i,hi,h⟩)))))
theorem Az {q row at_:Nat} (g:Gd X) (hX:Ext X w) (h:TA X P T p M w) (hr:row<P.m) (ha:at_<P.n) (hk:T.f row at_≠0) (hn:P.n<=1000) (hm:P.m<=1000) (jo:1<=q) (kn:q<=400) (Q:TQ P T q) :
    Calls prog 200 #[.pointer (some ⟨p,0,none⟩),.int .i64 row,.int .i64 at_] w fun e w'=>e = .returned (.tuple #[])/\Mv X w (M.S p P.m) w'/\∃ kz,w.heap.size<=kz/\TA X P (T.bu row at_) p (M.vU row kz P.n) w' :=
 (Sb P T p M row at_ q X w g hX h.up h.mem hr ha hk hn hm jo kn Q.c Q.f Q.wc Q.wf).mono fun e w' ⟨h1,h2,kz,h3,h4⟩ =>
  ⟨h1,h2,kz,h3,h4,fun k hk=>(TM.Np hk).elim (h.up k) (fun e=>by have:=hX.size;omega),fun k hk=>(TM.Np hk).elim (fun hs=>Nat.lt_of_lt_of_le (h.lt k hs) h2.size) (fun e=>by
   obtain⟨C,b,_⟩:=h4.r8 ae row hr;have:=b.lt;simp only[TM.vU,if_pos] at this;omega)⟩
end
