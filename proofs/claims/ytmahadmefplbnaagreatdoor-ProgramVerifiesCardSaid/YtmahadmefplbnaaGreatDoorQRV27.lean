/- Part 27. -/
import Derived.Test.YtmahadmefplbnaaGreatDoorQRV26
set_option maxRecDepth 100000
set_option maxHeartbeats 2000000
set_option linter.unusedSimpArgs false
set_option linter.unusedVariables false
theorem Go.Proofs.YtmahadmefplbnaaGreatDoor.Hi27 {p:Prop} (h:p):Go.RowKit.Hid p:=h
namespace Go.Proofs.YtmahadmefplbnaaGreatDoor
open Go Go.RowKit
theorem sgn_pos {q:Rat} (h:0<q):0<q.num:=by
 have h1:=(Rat.lt_iff 0 q).1 h;simpa using h1
theorem num_lt0 {q:Rat}:q.num<0 ↔ q<0:=by rw [Rat.lt_iff];simp
theorem num_gt0 {q:Rat}:0<q.num ↔ 0<q:=by rw [Rat.lt_iff];simp
theorem qs_z0 {q:Rat}:((qs q).toList == [48])=decide (q=0):=by
 by_cases h:q=0
 ·rw [qs_is0 h];simp [h]
 ·rw [qs_not0 h];simp [h]
theorem sgn_notpos {q:Rat} (h:¬ 0<q):decide (0<q.num)=false:=by
 rw [decide_eq_false_iff_not];intro h';exact h ((Rat.lt_iff 0 q).2 (by simpa using h'))
def Rl (w:World) (v:Value) (m:Nat) (c:Nat->Rat) (vf:Nat->Value):Prop:=∃ (ao:Option Addr) (cap:Nat),v = .slice ao m cap/\m<=cap/\cap<=maxLen /\
 ∀ i,i<m->∃ lb,ao=some ⟨lb,0,none⟩/\w.cell? ⟨lb,i*2,none⟩=some (.string (qs (c i)))/\w.cell? ⟨lb,i*2+1,none⟩=some (vf i)
theorem Rl.ext {w w':World} {v:Value} {m:Nat} {c:Nat->Rat} {vf:Nat->Value} (h:Rl w v m c vf) (e:Ext w w'):Rl w' v m c vf:=by
 obtain ⟨ao,cap,h1,h2,h3,h4⟩:=h;exact ⟨ao,cap,h1,h2,h3,fun i hi=>let ⟨lb,e1,e2,e3⟩:=h4 i hi;⟨lb,e1,keepA e e2,keepA e e3⟩⟩
structure TR (P:LP) (T:Tab) (w:World) (p:Nat) (vb vl vo vw:Value) (vf:Nat->Value):Prop where
 tab:∃ CP,Blk w p CP 185/\CP[0]?=some (.int .i64 (P.n:Int))/\CP[1]?=some vb/\CP[2]?=some vl/\CP[3]?=some vo/\CP[4]?=some (.string (qs T.wc))/\CP[5]?=some vw
 b:Ri w vb P.m (fun i=>(T.b i:Nat))
 o:Ri w vo P.n (fun j=>(T.o j:Nat))
 l:Rl w vl P.m T.c vf
 wf:Rq w vw P.n T.wf
 f:∀ i,i<P.m->Rq w (vf i) P.n (T.f i)
theorem TR.ext {P:LP} {T:Tab} {w w':World} {p:Nat} {vb vl vo vw:Value} {vf:Nat->Value} (h:TR P T w p vb vl vo vw vf) (e:Ext w w'):TR P T w' p vb vl vo vw vf :=
 ⟨let ⟨CP,a,b⟩:=h.tab;⟨CP,a.ext e,b⟩,h.b.ext e,h.o.ext e,h.l.ext e,h.wf.ext e,fun i hi=>(h.f i hi).ext e⟩
theorem lst_no {vs:Nat->Nat} {is:Nat->Bool} {k:Nat} (h:is k=false):lst vs is (k+1)=lst vs is k:=by rw [lst,if_neg (by simp [h])]
theorem lst_first {vs:Nat->Nat} {is:Nat->Bool} {k:Nat} (h:is k=true) (e:lst vs is k=-1):lst vs is (k+1)=(k:Int):=by rw [lst,if_pos ⟨h,Or.inl (by omega)⟩]
theorem lst_less {vs:Nat->Nat} {is:Nat->Bool} {k i:Nat} (h:is k=true) (e:lst vs is k=(i:Int)) (hl:vs k<vs i):lst vs is (k+1)=(k:Int):=by rw [lst,if_pos ⟨h,Or.inr (by rw [e];exact hl)⟩]
theorem lst_more {vs:Nat->Nat} {is:Nat->Bool} {k i:Nat} (h:is k=true) (e:lst vs is k=(i:Int)) (hl:¬ vs k<vs i):lst vs is (k+1)=(i:Int):=by
 rw [lst,if_neg (fun h'=>h'.2.elim (fun x=>by omega) (fun x=>by rw [e] at x;exact hl x))];exact e
theorem at_addr {w:World} {a:Addr} {i:Nat} {v:Value} (h:∃ b,(some a:Option Addr)=some b/\w.cell? (b.add i)=some v):w.cell? (a.add i)=some v:=by
 obtain ⟨b,e,h⟩:=h;rw [Option.some.inj e];exact h
theorem slack_c {n:Nat} (p v:Nat) (r:Bool) (w:World) {CP:Array Value} (hB:Blk w p CP 185) (h0:CP[0]?=some (.int .i64 (n:Int))) (hr:decide (n<=v)=r):Calls Tryz.prog 198 #[.pointer (some ⟨p,0,none⟩),.int .i64 (v:Int)] w (fun e w'=>e = .returned (.bool r)/\w=w'):=by
 have HBp:=Hi27 hB;have HP0:=Hi27 h0;have HR:=Hi27 hr;clear hB h0 hr;go_enter Tryz.func198,Tryz.ntmps198;by_cases h1:n<=v
 ·obtain rfl:r=true:=by rw [← HR.out];simpa using h1
  have h2:(n:Int)<=(v:Int):=by omega
  have cp_0:=HBp.out.cell (0) HP0.out;go_wp2;go_ret;exact ⟨rfl,rfl⟩
 ·obtain rfl:r=false:=by rw [← HR.out];simpa using h1
  have h2:¬ (n:Int)<=(v:Int):=by omega
  have cp_0:=HBp.out.cell (0) HP0.out;go_wp2;go_ret;exact ⟨rfl,rfl⟩
theorem cl_f1 (P:LP) (T:Tab) (p:Nat) (vb vl vo vw:Value) (vf:Nat->Value) (w:World) (xb i:Nat) (CX:Array Value) (tx:TypeId) (r:Bool) (g:Gd w) (hT:TR P T w p vb vl vo vw vf) (bx:Blk w xb CX tx) (x0:CX[0]?=some (.pointer (some ⟨p,0,none⟩))) (hi:i<P.m) (hr:(decide (P.n<=T.b i) && decide (T.c i<0))=r):Calls Tryz.prog 202 #[.int .i64 (i:Int),.pointer (some ⟨xb,0,none⟩)] w (Ret w (.bool r)):=by
 have HG:=Hi27 g;have HBx:=Hi27 bx;have HX00:=Hi27 x0;have HI:=Hi27 hi;have HR:=Hi27 hr;clear g bx x0 hi hr;obtain ⟨CP,b1,p0⟩:=hT.tab;obtain ⟨bo,bc,rfl,zb1,zb2,hb⟩:=hT.b;obtain ⟨lo_,lc,rfl,zl1,zl2,hl⟩:=hT.l;obtain ⟨oo,oc,rfl,zo1,zo2,ho⟩:=hT.o;obtain ⟨wo,wcap,rfl,zw1,zw2,hw⟩:=hT.wf;have HF:=Hi27 hT.f;have HTR:=Hi27 hT;have HBp:=Hi27 b1;have HP0:Hid (_/\_/\_/\_/\_/\_):=Hi27 p0;have HRB:=Hi27 hb;have HRL:=Hi27 hl;have HRO:=Hi27 ho;have HRW:=Hi27 hw;clear b1 p0 hb hl ho hw hT zb1 zb2 zl1 zl2 zo1 zo2 zw1 zw2;go_enter Tryz.func202,Tryz.ntmps202;have vi_:=HI.out;obtain ⟨ba,rfl,zb_⟩:=HRB.out i HI.out;have HCb:=Hi27 zb_;clear zb_;have vi_:=HI.out;obtain ⟨la,rfl,zl_,zm_⟩:=HRL.out i HI.out;have HCl:=Hi27 zl_;have HCm:=Hi27 zm_;clear zl_ zm_;by_cases h1:P.n<=T.b i
 ·have h1p:=Hi27 h1;clear h1;go_wp2_with fail;refine region_e [.val (.pointer (some ⟨p,0,none⟩)),.val (.pointer (some ⟨p,0,none⟩)),.val (.pointer (some ⟨p,0,none⟩)),.val (.pointer (some ⟨p,1,none⟩)),.val (.slice (some ba) P.m bc),.val (.int .i64 (i:Int)),.val (.pointer (some (ba.add i))),.val (.int .i64 (T.b i:Int)),.val (.bool true),.val (.bool true),.val (.pointer (some ⟨p,0,none⟩)),.val (.pointer (some ⟨p,0,none⟩)),.val (.pointer (some ⟨p,2,none⟩)),.val (.slice (some ⟨la,0,none⟩) P.m lc),.val (.int .i64 (i:Int)),.val (.pointer (some ⟨la,i*2,none⟩)),.val (.pointer (some ⟨la,i*2,none⟩)),.val (.string (qs (T.c i))),.val (.int .i64 ((T.c i).num.sign)),.val (.bool (decide ((T.c i).num<0))),.val (.bool (decide ((T.c i).num<0))),.val (.bool (decide ((T.c i).num<0)))] (fun L g W=>True) (S:=fun _=>False) (by kernel_rfl) (by kernel_rfl) (by kernel_rfl) (Mv.refl (Ext.refl w) (fun k h=>h.elim)) ?_ ?_ ?_ ?_ (fun gv_ w1 hm_ he_=>?_)
  ·exact fun _=>trivial
  ·exact fun _ _ _ _ h _=>h
  ·exact fun _ _ _ _ _ _ h=>h
  ·skip
   refine J2 (fun hs_=>hs_.is 1 (.pointer (some ⟨xb,0,none⟩))) (fun hs_=>(hs_.mv.blk HBx.out (fun h=>h)).cell (0) HX00.out)<|J2 (fun hs_=>hs_.is 1 (.pointer (some ⟨xb,0,none⟩))) (fun hs_=>(hs_.mv.blk HBx.out (fun h=>h)).cell (0) HX00.out)<|R1 1<|R1 2<|J2 (fun hs_=>hs_.val 3) (fun hs_=>(hs_.mv.blk HBp.out (fun h=>h)).cell (1) HP0.out.2.1)<|RI 0 (.int .i64 (i:Int))<|R2 4 5<|J2 (fun hs_=>hs_.val 6) (fun hs_=>keepA hs_.mv.ext (HCb.out)) ?_;refine RV (fun A_ hs_ K_ hK_=>?_) ?_;· have q4_:=hs_.val 0;have q11_:=hs_.val 7;go_simp;refine (slack_c (n:=P.n) p (T.b i) true _ (hs_.mv.blk HBp.out (fun h=>h)) HP0.out.1 (by have:=h1p.out;simp;omega)).mono ?_;rintro e _ ⟨rfl,rfl⟩;exact fin_ hK_
   refine R1 8<|J2 (fun hs_=>hs_.is 1 (.pointer (some ⟨xb,0,none⟩))) (fun hs_=>(hs_.mv.blk HBx.out (fun h=>h)).cell (0) HX00.out)<|R1 10<|R1 11<|J2 (fun hs_=>hs_.val 12) (fun hs_=>(hs_.mv.blk HBp.out (fun h=>h)).cell (2) HP0.out.2.2.1)<|RI 0 (.int .i64 (i:Int))<|R2 13 14<|R1 15<|J2 (fun hs_=>hs_.val 16) (fun hs_=>keepA hs_.mv.ext (HCl.out)) ?_;refine RV (fun A_ hs_ K_ hK_=>?_) ?_;· have q21_:=hs_.val 17;go_simp;refine (rsign_c (T.c i) _).mono ?_;rintro e _ ⟨rfl,rfl⟩;exact fin_ hK_
   exact R1 18<|R2 9 19<|R1 20<|RnEL.nil
  simp only [fse,Ke.value,puts,Act.put,List.setIfInBounds_toArray,List.set_cons_zero,List.set_cons_succ];have HX1:Hid (Ext w w1):=Hi27 hm_.ext;clear hm_ he_;go_wp2;go_ret;exact ⟨by rw [← HR.out];simp [h1p.out,num_lt0],HX1.out⟩
 ·have h1p:=Hi27 h1;obtain rfl:r=false:=by rw [← HR.out];simp [h1]
  clear h1;go_wp2_with fail;refine region_e [.val (.pointer (some ⟨p,0,none⟩)),.val (.pointer (some ⟨p,0,none⟩)),.val (.pointer (some ⟨p,0,none⟩)),.val (.pointer (some ⟨p,1,none⟩)),.val (.slice (some ba) P.m bc),.val (.int .i64 (i:Int)),.val (.pointer (some (ba.add i))),.val (.int .i64 (T.b i:Int)),.val (.bool false),.val (.bool false),.off,.off,.off,.off,.off,.off,.off,.off,.off,.off,.val (.bool false),.val (.bool false)] (fun L g W=>True) (S:=fun _=>False) (by kernel_rfl) (by kernel_rfl) (by kernel_rfl) (Mv.refl (Ext.refl w) (fun k h=>h.elim)) ?_ ?_ ?_ ?_ (fun gv_ w1 hm_ he_=>?_)
  ·exact fun _=>trivial
  ·exact fun _ _ _ _ h _=>h
  ·exact fun _ _ _ _ _ _ h=>h
  ·skip
   refine J2 (fun hs_=>hs_.is 1 (.pointer (some ⟨xb,0,none⟩))) (fun hs_=>(hs_.mv.blk HBx.out (fun h=>h)).cell (0) HX00.out)<|J2 (fun hs_=>hs_.is 1 (.pointer (some ⟨xb,0,none⟩))) (fun hs_=>(hs_.mv.blk HBx.out (fun h=>h)).cell (0) HX00.out)<|R1 1<|R1 2<|J2 (fun hs_=>hs_.val 3) (fun hs_=>(hs_.mv.blk HBp.out (fun h=>h)).cell (1) HP0.out.2.1)<|RI 0 (.int .i64 (i:Int))<|R2 4 5<|J2 (fun hs_=>hs_.val 6) (fun hs_=>keepA hs_.mv.ext (HCb.out)) ?_;refine RV (fun A_ hs_ K_ hK_=>?_) ?_;· have q4_:=hs_.val 0;have q11_:=hs_.val 7;go_simp;refine (slack_c (n:=P.n) p (T.b i) false _ (hs_.mv.blk HBp.out (fun h=>h)) HP0.out.1 (by have:=h1p.out;simp;omega)).mono ?_;rintro e _ ⟨rfl,rfl⟩;exact fin_ hK_
   exact R1 8<|RO<|RO<|RO<|RO<|RO<|RO<|RO<|RO<|RO<|RO<|J2 (fun hs_=>hs_.val 9) (fun hs_=>hs_.un 19)<|R1 20<|RnEL.nil
  simp only [fse,Ke.value,puts,Act.put,List.setIfInBounds_toArray,List.set_cons_zero,List.set_cons_succ];have HX1:Hid (Ext w w1):=Hi27 hm_.ext;clear hm_ he_;go_wp2;go_ret;exact ⟨rfl,HX1.out⟩
theorem cl_f2 (P:LP) (T:Tab) (p:Nat) (vb vl vo vw:Value) (vf:Nat->Value) (w:World) (xb j:Nat) (CX:Array Value) (tx:TypeId) (yb row:Nat) (CY:Array Value) (ty:TypeId) (r:Bool) (g:Gd w) (hT:TR P T w p vb vl vo vw vf) (bx:Blk w xb CX tx) (x0:CX[0]?=some (.pointer (some ⟨p,0,none⟩))) (by_:Blk w yb CY ty) (y0:CY[0]?=some (.int .i64 (row:Int))) (hrow:row<P.m) (hi:j<P.n) (hr:(decide (P.n<=T.o j) && decide (0<T.f row j))=r):Calls Tryz.prog 203 #[.int .i64 (j:Int),.pointer (some ⟨xb,0,none⟩),.pointer (some ⟨yb,0,none⟩)] w (Ret w (.bool r)):=by
 have HG:=Hi27 g;have HBx:=Hi27 bx;have HX00:=Hi27 x0;have HI:=Hi27 hi;have HR:=Hi27 hr;have HBy:=Hi27 by_;have HY00:=Hi27 y0;have HROW:=Hi27 hrow;clear g bx x0 hi hr by_ y0 hrow;obtain ⟨CP,b1,p0⟩:=hT.tab;obtain ⟨bo,bc,rfl,zb1,zb2,hb⟩:=hT.b;obtain ⟨lo_,lc,rfl,zl1,zl2,hl⟩:=hT.l;obtain ⟨oo,oc,rfl,zo1,zo2,ho⟩:=hT.o;obtain ⟨wo,wcap,rfl,zw1,zw2,hw⟩:=hT.wf;have HF:=Hi27 hT.f;have HTR:=Hi27 hT;have HBp:=Hi27 b1;have HP0:Hid (_/\_/\_/\_/\_/\_):=Hi27 p0;have HRB:=Hi27 hb;have HRL:=Hi27 hl;have HRO:=Hi27 ho;have HRW:=Hi27 hw;clear b1 p0 hb hl ho hw hT zb1 zb2 zl1 zl2 zo1 zo2 zw1 zw2;go_enter Tryz.func203,Tryz.ntmps203;have vj_:=HI.out;obtain ⟨oa,rfl,zo_⟩:=HRO.out j HI.out;have HCo:=Hi27 zo_;clear zo_;have vrow_:=HROW.out;obtain ⟨la,rfl,zl_,zm_⟩:=HRL.out row HROW.out;have HCl:=Hi27 zl_;have HCm:=Hi27 zm_;clear zl_ zm_;obtain ⟨fo,fcap,ef_,_,_,hf_⟩:=HF.out row HROW.out;obtain ⟨fa,rfl,zf_⟩:=hf_ j HI.out;rw [ef_] at HCm;have HCf:=Hi27 zf_;clear zf_ hf_ ef_;by_cases h1:P.n<=T.o j
 ·have h1p:=Hi27 h1;clear h1;go_wp2_with fail;refine region_e [.val (.pointer (some ⟨p,0,none⟩)),.val (.pointer (some ⟨p,0,none⟩)),.val (.pointer (some ⟨p,0,none⟩)),.val (.pointer (some ⟨p,3,none⟩)),.val (.slice (some oa) P.n oc),.val (.int .i64 (j:Int)),.val (.pointer (some (oa.add j))),.val (.int .i64 (T.o j:Int)),.val (.bool true),.val (.bool true),.val (.pointer (some ⟨p,0,none⟩)),.val (.pointer (some ⟨p,0,none⟩)),.val (.pointer (some ⟨p,2,none⟩)),.val (.slice (some ⟨la,0,none⟩) P.m lc),.val (.int .i64 (row:Int)),.val (.pointer (some ⟨la,row*2,none⟩)),.val (.pointer (some ⟨la,row*2+1,none⟩)),.val (.slice (some fa) P.n fcap),.val (.int .i64 (j:Int)),.val (.pointer (some (fa.add j))),.val (.string (qs (T.f row j))),.val (.int .i64 ((T.f row j).num.sign)),.val (.bool (decide (0<(T.f row j).num))),.val (.bool (decide (0<(T.f row j).num))),.val (.bool (decide (0<(T.f row j).num)))] (fun L g W=>True) (S:=fun _=>False) (by kernel_rfl) (by kernel_rfl) (by kernel_rfl) (Mv.refl (Ext.refl w) (fun k h=>h.elim)) ?_ ?_ ?_ ?_ (fun gv_ w1 hm_ he_=>?_)
  ·exact fun _=>trivial
  ·exact fun _ _ _ _ h _=>h
  ·exact fun _ _ _ _ _ _ h=>h
  ·skip
   refine J2 (fun hs_=>hs_.is 1 (.pointer (some ⟨xb,0,none⟩))) (fun hs_=>(hs_.mv.blk HBx.out (fun h=>h)).cell (0) HX00.out)<|J2 (fun hs_=>hs_.is 1 (.pointer (some ⟨xb,0,none⟩))) (fun hs_=>(hs_.mv.blk HBx.out (fun h=>h)).cell (0) HX00.out)<|R1 1<|R1 2<|J2 (fun hs_=>hs_.val 3) (fun hs_=>(hs_.mv.blk HBp.out (fun h=>h)).cell (3) HP0.out.2.2.2.1)<|RI 0 (.int .i64 (j:Int))<|R2 4 5<|J2 (fun hs_=>hs_.val 6) (fun hs_=>keepA hs_.mv.ext (HCo.out)) ?_;refine RV (fun A_ hs_ K_ hK_=>?_) ?_;· have q5_:=hs_.val 0;have q12_:=hs_.val 7;go_simp;refine (slack_c (n:=P.n) p (T.o j) true _ (hs_.mv.blk HBp.out (fun h=>h)) HP0.out.1 (by have:=h1p.out;simp;omega)).mono ?_;rintro e _ ⟨rfl,rfl⟩;exact fin_ hK_
   refine R1 8<|J2 (fun hs_=>hs_.is 1 (.pointer (some ⟨xb,0,none⟩))) (fun hs_=>(hs_.mv.blk HBx.out (fun h=>h)).cell (0) HX00.out)<|R1 10<|R1 11<|J2 (fun hs_=>hs_.val 12) (fun hs_=>(hs_.mv.blk HBp.out (fun h=>h)).cell (2) HP0.out.2.2.1)<|J2 (fun hs_=>hs_.is 2 (.pointer (some ⟨yb,0,none⟩))) (fun hs_=>(hs_.mv.blk HBy.out (fun h=>h)).cell (0) HY00.out)<|R2 13 14<|R1 15<|J2 (fun hs_=>hs_.val 16) (fun hs_=>keepA hs_.mv.ext (HCm.out))<|RI 0 (.int .i64 (j:Int))<|R2 17 18<|J2 (fun hs_=>hs_.val 19) (fun hs_=>keepA hs_.mv.ext (HCf.out)) ?_;refine RV (fun A_ hs_ K_ hK_=>?_) ?_;· have q25_:=hs_.val 20;go_simp;refine (rsign_c (T.f row j) _).mono ?_;rintro e _ ⟨rfl,rfl⟩;exact fin_ hK_
   exact R1 21<|R2 9 22<|R1 23<|RnEL.nil
  simp only [fse,Ke.value,puts,Act.put,List.setIfInBounds_toArray,List.set_cons_zero,List.set_cons_succ];have HX1:Hid (Ext w w1):=Hi27 hm_.ext;clear hm_ he_;go_wp2;go_ret;exact ⟨by rw [← HR.out];simp [h1p.out,num_gt0],HX1.out⟩
 ·have h1p:=Hi27 h1;obtain rfl:r=false:=by rw [← HR.out];simp [h1]
  clear h1;go_wp2_with fail;refine region_e [.val (.pointer (some ⟨p,0,none⟩)),.val (.pointer (some ⟨p,0,none⟩)),.val (.pointer (some ⟨p,0,none⟩)),.val (.pointer (some ⟨p,3,none⟩)),.val (.slice (some oa) P.n oc),.val (.int .i64 (j:Int)),.val (.pointer (some (oa.add j))),.val (.int .i64 (T.o j:Int)),.val (.bool false),.val (.bool false),.off,.off,.off,.off,.off,.off,.off,.off,.off,.off,.off,.off,.off,.val (.bool false),.val (.bool false)] (fun L g W=>True) (S:=fun _=>False) (by kernel_rfl) (by kernel_rfl) (by kernel_rfl) (Mv.refl (Ext.refl w) (fun k h=>h.elim)) ?_ ?_ ?_ ?_ (fun gv_ w1 hm_ he_=>?_)
  ·exact fun _=>trivial
  ·exact fun _ _ _ _ h _=>h
  ·exact fun _ _ _ _ _ _ h=>h
  ·skip
   refine J2 (fun hs_=>hs_.is 1 (.pointer (some ⟨xb,0,none⟩))) (fun hs_=>(hs_.mv.blk HBx.out (fun h=>h)).cell (0) HX00.out)<|J2 (fun hs_=>hs_.is 1 (.pointer (some ⟨xb,0,none⟩))) (fun hs_=>(hs_.mv.blk HBx.out (fun h=>h)).cell (0) HX00.out)<|R1 1<|R1 2<|J2 (fun hs_=>hs_.val 3) (fun hs_=>(hs_.mv.blk HBp.out (fun h=>h)).cell (3) HP0.out.2.2.2.1)<|RI 0 (.int .i64 (j:Int))<|R2 4 5<|J2 (fun hs_=>hs_.val 6) (fun hs_=>keepA hs_.mv.ext (HCo.out)) ?_;refine RV (fun A_ hs_ K_ hK_=>?_) ?_;· have q5_:=hs_.val 0;have q12_:=hs_.val 7;go_simp;refine (slack_c (n:=P.n) p (T.o j) false _ (hs_.mv.blk HBp.out (fun h=>h)) HP0.out.1 (by have:=h1p.out;simp;omega)).mono ?_;rintro e _ ⟨rfl,rfl⟩;exact fin_ hK_
   exact R1 8<|RO<|RO<|RO<|RO<|RO<|RO<|RO<|RO<|RO<|RO<|RO<|RO<|RO<|J2 (fun hs_=>hs_.val 9) (fun hs_=>hs_.un 22)<|R1 23<|RnEL.nil
  simp only [fse,Ke.value,puts,Act.put,List.setIfInBounds_toArray,List.set_cons_zero,List.set_cons_succ];have HX1:Hid (Ext w w1):=Hi27 hm_.ext;clear hm_ he_;go_wp2;go_ret;exact ⟨rfl,HX1.out⟩
theorem cl_m1 (P:LP) (T:Tab) (p:Nat) (vb vl vo vw:Value) (vf:Nat->Value) (w:World) (xb j:Nat) (CX:Array Value) (tx:TypeId) (r:Bool) (g:Gd w) (hT:TR P T w p vb vl vo vw vf) (bx:Blk w xb CX tx) (x0:CX[0]?=some (.pointer (some ⟨p,0,none⟩))) (hi:j<P.n) (hr:(!decide (P.n<=T.o j) && decide (T.wf j≠0))=r):Calls Tryz.prog 204 #[.int .i64 (j:Int),.pointer (some ⟨xb,0,none⟩)] w (Ret w (.bool r)):=by
 have HG:=Hi27 g;have HBx:=Hi27 bx;have HX00:=Hi27 x0;have HI:=Hi27 hi;have HR:=Hi27 hr;clear g bx x0 hi hr;obtain ⟨CP,b1,p0⟩:=hT.tab;obtain ⟨bo,bc,rfl,zb1,zb2,hb⟩:=hT.b;obtain ⟨lo_,lc,rfl,zl1,zl2,hl⟩:=hT.l;obtain ⟨oo,oc,rfl,zo1,zo2,ho⟩:=hT.o;obtain ⟨wo,wcap,rfl,zw1,zw2,hw⟩:=hT.wf;have HF:=Hi27 hT.f;have HTR:=Hi27 hT;have HBp:=Hi27 b1;have HP0:Hid (_/\_/\_/\_/\_/\_):=Hi27 p0;have HRB:=Hi27 hb;have HRL:=Hi27 hl;have HRO:=Hi27 ho;have HRW:=Hi27 hw;clear b1 p0 hb hl ho hw hT zb1 zb2 zl1 zl2 zo1 zo2 zw1 zw2;go_enter Tryz.func204,Tryz.ntmps204;have vj_:=HI.out;obtain ⟨oa,rfl,zo_⟩:=HRO.out j HI.out;have HCo:=Hi27 zo_;clear zo_;obtain ⟨wa,rfl,zw_⟩:=HRW.out j HI.out;have HCw:=Hi27 zw_;clear zw_;by_cases h1:P.n<=T.o j
 ·have h1p:=Hi27 h1;obtain rfl:r=false:=by rw [← HR.out];simp [h1]
  clear h1;go_wp2_with fail;refine region_e [.val (.pointer (some ⟨p,0,none⟩)),.val (.pointer (some ⟨p,0,none⟩)),.val (.pointer (some ⟨p,0,none⟩)),.val (.pointer (some ⟨p,3,none⟩)),.val (.slice (some oa) P.n oc),.val (.int .i64 (j:Int)),.val (.pointer (some (oa.add j))),.val (.int .i64 (T.o j:Int)),.val (.bool true),.val (.bool false),.val (.bool false),.off,.off,.off,.off,.off,.off,.off,.off,.off,.val (.bool false),.val (.bool false)] (fun L g W=>True) (S:=fun _=>False) (by kernel_rfl) (by kernel_rfl) (by kernel_rfl) (Mv.refl (Ext.refl w) (fun k h=>h.elim)) ?_ ?_ ?_ ?_ (fun gv_ w1 hm_ he_=>?_)
  ·exact fun _=>trivial
  ·exact fun _ _ _ _ h _=>h
  ·exact fun _ _ _ _ _ _ h=>h
  ·skip
   refine J2 (fun hs_=>hs_.is 1 (.pointer (some ⟨xb,0,none⟩))) (fun hs_=>(hs_.mv.blk HBx.out (fun h=>h)).cell (0) HX00.out)<|J2 (fun hs_=>hs_.is 1 (.pointer (some ⟨xb,0,none⟩))) (fun hs_=>(hs_.mv.blk HBx.out (fun h=>h)).cell (0) HX00.out)<|R1 1<|R1 2<|J2 (fun hs_=>hs_.val 3) (fun hs_=>(hs_.mv.blk HBp.out (fun h=>h)).cell (3) HP0.out.2.2.2.1)<|RI 0 (.int .i64 (j:Int))<|R2 4 5<|J2 (fun hs_=>hs_.val 6) (fun hs_=>keepA hs_.mv.ext (HCo.out)) ?_;refine RV (fun A_ hs_ K_ hK_=>?_) ?_;· have q4_:=hs_.val 0;have q11_:=hs_.val 7;go_simp;refine (slack_c (n:=P.n) p (T.o j) true _ (hs_.mv.blk HBp.out (fun h=>h)) HP0.out.1 (by have:=h1p.out;simp;omega)).mono ?_;rintro e _ ⟨rfl,rfl⟩;exact fin_ hK_
   exact R1 8<|R1 9<|RO<|RO<|RO<|RO<|RO<|RO<|RO<|RO<|RO<|J2 (fun hs_=>hs_.val 10) (fun hs_=>hs_.un 19)<|R1 20<|RnEL.nil
  simp only [fse,Ke.value,puts,Act.put,List.setIfInBounds_toArray,List.set_cons_zero,List.set_cons_succ];have HX1:Hid (Ext w w1):=Hi27 hm_.ext;clear hm_ he_;go_wp2;go_ret;exact ⟨rfl,HX1.out⟩
 ·have h1p:=Hi27 h1;clear h1;go_wp2_with fail;refine region_e [.val (.pointer (some ⟨p,0,none⟩)),.val (.pointer (some ⟨p,0,none⟩)),.val (.pointer (some ⟨p,0,none⟩)),.val (.pointer (some ⟨p,3,none⟩)),.val (.slice (some oa) P.n oc),.val (.int .i64 (j:Int)),.val (.pointer (some (oa.add j))),.val (.int .i64 (T.o j:Int)),.val (.bool false),.val (.bool true),.val (.bool true),.val (.pointer (some ⟨p,0,none⟩)),.val (.pointer (some ⟨p,0,none⟩)),.val (.pointer (some ⟨p,4,none⟩)),.val (.pointer (some ⟨p,5,none⟩)),.val (.slice (some wa) P.n wcap),.val (.int .i64 (j:Int)),.val (.pointer (some (wa.add j))),.val (.string (qs (T.wf j))),.val (.bool (!((qs (T.wf j)).toList == [48]))),.val (.bool (!((qs (T.wf j)).toList == [48]))),.val (.bool (!((qs (T.wf j)).toList == [48])))] (fun L g W=>True) (S:=fun _=>False) (by kernel_rfl) (by kernel_rfl) (by kernel_rfl) (Mv.refl (Ext.refl w) (fun k h=>h.elim)) ?_ ?_ ?_ ?_ (fun gv_ w1 hm_ he_=>?_)
  ·exact fun _=>trivial
  ·exact fun _ _ _ _ h _=>h
  ·exact fun _ _ _ _ _ _ h=>h
  ·skip
   refine J2 (fun hs_=>hs_.is 1 (.pointer (some ⟨xb,0,none⟩))) (fun hs_=>(hs_.mv.blk HBx.out (fun h=>h)).cell (0) HX00.out)<|J2 (fun hs_=>hs_.is 1 (.pointer (some ⟨xb,0,none⟩))) (fun hs_=>(hs_.mv.blk HBx.out (fun h=>h)).cell (0) HX00.out)<|R1 1<|R1 2<|J2 (fun hs_=>hs_.val 3) (fun hs_=>(hs_.mv.blk HBp.out (fun h=>h)).cell (3) HP0.out.2.2.2.1)<|RI 0 (.int .i64 (j:Int))<|R2 4 5<|J2 (fun hs_=>hs_.val 6) (fun hs_=>keepA hs_.mv.ext (HCo.out)) ?_;refine RV (fun A_ hs_ K_ hK_=>?_) ?_;· have q4_:=hs_.val 0;have q11_:=hs_.val 7;go_simp;refine (slack_c (n:=P.n) p (T.o j) false _ (hs_.mv.blk HBp.out (fun h=>h)) HP0.out.1 (by have:=h1p.out;simp;omega)).mono ?_;rintro e _ ⟨rfl,rfl⟩;exact fin_ hK_
   exact R1 8<|R1 9<|J2 (fun hs_=>hs_.is 1 (.pointer (some ⟨xb,0,none⟩))) (fun hs_=>(hs_.mv.blk HBx.out (fun h=>h)).cell (0) HX00.out)<|R1 11<|R1 12<|R1 13<|J2 (fun hs_=>hs_.val 14) (fun hs_=>(hs_.mv.blk HBp.out (fun h=>h)).cell (5) HP0.out.2.2.2.2.2)<|RI 0 (.int .i64 (j:Int))<|R2 15 16<|J2 (fun hs_=>hs_.val 17) (fun hs_=>keepA hs_.mv.ext (HCw.out))<|R1 18<|R2 10 19<|R1 20<|RnEL.nil
  simp only [fse,Ke.value,puts,Act.put,List.setIfInBounds_toArray,List.set_cons_zero,List.set_cons_succ];have HX1:Hid (Ext w w1):=Hi27 hm_.ext;clear hm_ he_;go_wp2;go_ret;exact ⟨by rw [← HR.out];simp [h1p.out,qs_z0],HX1.out⟩
theorem cl_m2 (P:LP) (T:Tab) (p:Nat) (vb vl vo vw:Value) (vf:Nat->Value) (w:World) (xb j:Nat) (CX:Array Value) (tx:TypeId) (r:Bool) (g:Gd w) (hT:TR P T w p vb vl vo vw vf) (bx:Blk w xb CX tx) (x0:CX[0]?=some (.pointer (some ⟨p,0,none⟩))) (hi:j<P.n) (hr:(decide (P.n<=T.o j) && decide (T.wf j<0))=r):Calls Tryz.prog 205 #[.int .i64 (j:Int),.pointer (some ⟨xb,0,none⟩)] w (Ret w (.bool r)):=by
 have HG:=Hi27 g;have HBx:=Hi27 bx;have HX00:=Hi27 x0;have HI:=Hi27 hi;have HR:=Hi27 hr;clear g bx x0 hi hr;obtain ⟨CP,b1,p0⟩:=hT.tab;obtain ⟨bo,bc,rfl,zb1,zb2,hb⟩:=hT.b;obtain ⟨lo_,lc,rfl,zl1,zl2,hl⟩:=hT.l;obtain ⟨oo,oc,rfl,zo1,zo2,ho⟩:=hT.o;obtain ⟨wo,wcap,rfl,zw1,zw2,hw⟩:=hT.wf;have HF:=Hi27 hT.f;have HTR:=Hi27 hT;have HBp:=Hi27 b1;have HP0:Hid (_/\_/\_/\_/\_/\_):=Hi27 p0;have HRB:=Hi27 hb;have HRL:=Hi27 hl;have HRO:=Hi27 ho;have HRW:=Hi27 hw;clear b1 p0 hb hl ho hw hT zb1 zb2 zl1 zl2 zo1 zo2 zw1 zw2;go_enter Tryz.func205,Tryz.ntmps205;have vj_:=HI.out;obtain ⟨oa,rfl,zo_⟩:=HRO.out j HI.out;have HCo:=Hi27 zo_;clear zo_;obtain ⟨wa,rfl,zw_⟩:=HRW.out j HI.out;have HCw:=Hi27 zw_;clear zw_;by_cases h1:P.n<=T.o j
 ·have h1p:=Hi27 h1;clear h1;go_wp2_with fail;refine region_e [.val (.pointer (some ⟨p,0,none⟩)),.val (.pointer (some ⟨p,0,none⟩)),.val (.pointer (some ⟨p,0,none⟩)),.val (.pointer (some ⟨p,3,none⟩)),.val (.slice (some oa) P.n oc),.val (.int .i64 (j:Int)),.val (.pointer (some (oa.add j))),.val (.int .i64 (T.o j:Int)),.val (.bool true),.val (.bool true),.val (.pointer (some ⟨p,0,none⟩)),.val (.pointer (some ⟨p,0,none⟩)),.val (.pointer (some ⟨p,4,none⟩)),.val (.pointer (some ⟨p,5,none⟩)),.val (.slice (some wa) P.n wcap),.val (.int .i64 (j:Int)),.val (.pointer (some (wa.add j))),.val (.string (qs (T.wf j))),.val (.int .i64 ((T.wf j).num.sign)),.val (.bool (decide ((T.wf j).num<0))),.val (.bool (decide ((T.wf j).num<0))),.val (.bool (decide ((T.wf j).num<0)))] (fun L g W=>True) (S:=fun _=>False) (by kernel_rfl) (by kernel_rfl) (by kernel_rfl) (Mv.refl (Ext.refl w) (fun k h=>h.elim)) ?_ ?_ ?_ ?_ (fun gv_ w1 hm_ he_=>?_)
  ·exact fun _=>trivial
  ·exact fun _ _ _ _ h _=>h
  ·exact fun _ _ _ _ _ _ h=>h
  ·skip
   refine J2 (fun hs_=>hs_.is 1 (.pointer (some ⟨xb,0,none⟩))) (fun hs_=>(hs_.mv.blk HBx.out (fun h=>h)).cell (0) HX00.out)<|J2 (fun hs_=>hs_.is 1 (.pointer (some ⟨xb,0,none⟩))) (fun hs_=>(hs_.mv.blk HBx.out (fun h=>h)).cell (0) HX00.out)<|R1 1<|R1 2<|J2 (fun hs_=>hs_.val 3) (fun hs_=>(hs_.mv.blk HBp.out (fun h=>h)).cell (3) HP0.out.2.2.2.1)<|RI 0 (.int .i64 (j:Int))<|R2 4 5<|J2 (fun hs_=>hs_.val 6) (fun hs_=>keepA hs_.mv.ext (HCo.out)) ?_;refine RV (fun A_ hs_ K_ hK_=>?_) ?_;· have q4_:=hs_.val 0;have q11_:=hs_.val 7;go_simp;refine (slack_c (n:=P.n) p (T.o j) true _ (hs_.mv.blk HBp.out (fun h=>h)) HP0.out.1 (by have:=h1p.out;simp;omega)).mono ?_;rintro e _ ⟨rfl,rfl⟩;exact fin_ hK_
   refine R1 8<|J2 (fun hs_=>hs_.is 1 (.pointer (some ⟨xb,0,none⟩))) (fun hs_=>(hs_.mv.blk HBx.out (fun h=>h)).cell (0) HX00.out)<|R1 10<|R1 11<|R1 12<|J2 (fun hs_=>hs_.val 13) (fun hs_=>(hs_.mv.blk HBp.out (fun h=>h)).cell (5) HP0.out.2.2.2.2.2)<|RI 0 (.int .i64 (j:Int))<|R2 14 15<|J2 (fun hs_=>hs_.val 16) (fun hs_=>keepA hs_.mv.ext (HCw.out)) ?_;refine RV (fun A_ hs_ K_ hK_=>?_) ?_;· have q21_:=hs_.val 17;go_simp;refine (rsign_c (T.wf j) _).mono ?_;rintro e _ ⟨rfl,rfl⟩;exact fin_ hK_
   exact R1 18<|R2 9 19<|R1 20<|RnEL.nil
  simp only [fse,Ke.value,puts,Act.put,List.setIfInBounds_toArray,List.set_cons_zero,List.set_cons_succ];have HX1:Hid (Ext w w1):=Hi27 hm_.ext;clear hm_ he_;go_wp2;go_ret;exact ⟨by rw [← HR.out];simp [h1p.out,num_lt0],HX1.out⟩
 ·have h1p:=Hi27 h1;obtain rfl:r=false:=by rw [← HR.out];simp [h1]
  clear h1;go_wp2_with fail;refine region_e [.val (.pointer (some ⟨p,0,none⟩)),.val (.pointer (some ⟨p,0,none⟩)),.val (.pointer (some ⟨p,0,none⟩)),.val (.pointer (some ⟨p,3,none⟩)),.val (.slice (some oa) P.n oc),.val (.int .i64 (j:Int)),.val (.pointer (some (oa.add j))),.val (.int .i64 (T.o j:Int)),.val (.bool false),.val (.bool false),.off,.off,.off,.off,.off,.off,.off,.off,.off,.off,.val (.bool false),.val (.bool false)] (fun L g W=>True) (S:=fun _=>False) (by kernel_rfl) (by kernel_rfl) (by kernel_rfl) (Mv.refl (Ext.refl w) (fun k h=>h.elim)) ?_ ?_ ?_ ?_ (fun gv_ w1 hm_ he_=>?_)
  ·exact fun _=>trivial
  ·exact fun _ _ _ _ h _=>h
  ·exact fun _ _ _ _ _ _ h=>h
  ·skip
   refine J2 (fun hs_=>hs_.is 1 (.pointer (some ⟨xb,0,none⟩))) (fun hs_=>(hs_.mv.blk HBx.out (fun h=>h)).cell (0) HX00.out)<|J2 (fun hs_=>hs_.is 1 (.pointer (some ⟨xb,0,none⟩))) (fun hs_=>(hs_.mv.blk HBx.out (fun h=>h)).cell (0) HX00.out)<|R1 1<|R1 2<|J2 (fun hs_=>hs_.val 3) (fun hs_=>(hs_.mv.blk HBp.out (fun h=>h)).cell (3) HP0.out.2.2.2.1)<|RI 0 (.int .i64 (j:Int))<|R2 4 5<|J2 (fun hs_=>hs_.val 6) (fun hs_=>keepA hs_.mv.ext (HCo.out)) ?_;refine RV (fun A_ hs_ K_ hK_=>?_) ?_;· have q4_:=hs_.val 0;have q11_:=hs_.val 7;go_simp;refine (slack_c (n:=P.n) p (T.o j) false _ (hs_.mv.blk HBp.out (fun h=>h)) HP0.out.1 (by have:=h1p.out;simp;omega)).mono ?_;rintro e _ ⟨rfl,rfl⟩;exact fin_ hK_
   exact R1 8<|RO<|RO<|RO<|RO<|RO<|RO<|RO<|RO<|RO<|RO<|J2 (fun hs_=>hs_.val 9) (fun hs_=>hs_.un 19)<|R1 20<|RnEL.nil
  simp only [fse,Ke.value,puts,Act.put,List.setIfInBounds_toArray,List.set_cons_zero,List.set_cons_succ];have HX1:Hid (Ext w w1):=Hi27 hm_.ext;clear hm_ he_;go_wp2;go_ret;exact ⟨rfl,HX1.out⟩
theorem least_g (vs:Nat->Nat) (is:Nat->Bool) (n fn:Nat) (cp:Array Value) (w:World) (ao_:Option Addr) (ac:Nat) (ha:∀ i,i<n->∃ a,ao_=some a/\w.cell? (a.add i)=some (.int .i64 (vs i:Nat))) (hcl:∀ W,Ext w W->∀ k:Nat,k<n->Calls Tryz.prog fn (#[.int .i64 (k:Int)] ++ cp) W (Ret W (.bool (is k)))) (hm:n<=1000000) (hcf:∀ a_ W,(callFunc fn a_).run Tryz.prog W = .ok (.enter fn a_) W):Calls Tryz.prog 201 #[.slice ao_ n ac,.func (.func fn) #[] cp] w (Ret w (.int .i64 (lst vs is n))):=by
 have HA:=Hi27 ha;have HCL:=Hi27 hcl;clear ha hcl;go_enter Tryz.func201,Tryz.ntmps201;go_wp2_with fail;go_loopw [10,5] (fun x0_ x1_ wx=>∃ k:Nat,x0_ = .int .i64 k/\x1_ = .int .i64 (lst vs is k)/\k<=n/\Hid (Ext w wx)) (fun x0_ x1_ _=>n-(intOf x0_).toNat)
 case atStart=>exact ⟨0,rfl,rfl,Nat.zero_le _,Hi27 (Ext.refl w)⟩
 case round =>
  rename World=>w1
  obtain ⟨k,rfl,rfl,hk,HX0⟩:=hrel;have HX1:Hid (Ext w w1):=HX0;clear HX0;by_cases hlt:k<n
  ·have hlt2:(k:Int)<(n:Int):=by omega
   obtain ⟨aa,rfl,za_⟩:=HA.out k hlt;have HCa:=Hi27 za_;clear za_;have HA1:=Hi27 (fun i (hi:i<n)=>HA.out i hi);rcases lst_spec vs is k with ⟨e0,z0⟩|⟨i0,z1,e0,z2⟩
   ·rw [e0];have HE:=Hi27 e0;clear e0 z0;by_cases his:is k=true
    ·have HIS:=Hi27 his;clear his;have ca_k:=keepA HX1.out (HCa.out);go_wp2_with fail;refine ((HIS.out▸HCL.out _ HX1.out k hlt)).mono ?_;rintro e w2 ⟨rfl,e2⟩;have HX2:=Hi27 (HX1.out.trans e2);clear e2 ca_k;go_wp2_with fail;go_roundw
     case rel=>exact ⟨k+1,by go_num,by rw [lst_first HIS.out HE.out],by omega,Hi27 HX2.out⟩
     case measure=>simp [intOf];omega
    ·have HIS:=Hi27 (Bool.not_eq_true _▸his:is k=false);clear his;have ca_k:=keepA HX1.out (HCa.out);go_wp2_with fail;refine ((HIS.out▸HCL.out _ HX1.out k hlt)).mono ?_;rintro e w2 ⟨rfl,e2⟩;have HX2:=Hi27 (HX1.out.trans e2);clear e2 ca_k;go_wp2_with fail;go_roundw
     case rel=>exact ⟨k+1,by go_num,by rw [lst_no HIS.out,HE.out],by omega,Hi27 HX2.out⟩
     case measure=>simp [intOf];omega
   ·rw [e0];have HE:=Hi27 e0;have hi0:=z1;clear e0 z1 z2;by_cases his:is k=true
    ·have HIS:=Hi27 his;clear his;have hn0:¬ (i0:Int)<0:=by omega
     have hi2:(i0:Int)<(n:Int):=by omega
     have HCi:=Hi27 (at_addr (HA1.out i0 (by omega)));by_cases hle:vs k<vs i0
     ·have hl2:((vs k:Nat):Int)<((vs i0:Nat):Int):=by omega
      have HLE:=Hi27 hle;clear hle;have ca_k:=keepA HX1.out (HCa.out);go_wp2_with fail;refine ((HIS.out▸HCL.out _ HX1.out k hlt)).mono ?_;rintro e w2 ⟨rfl,e2⟩;have HX2:=Hi27 (HX1.out.trans e2);clear e2 ca_k;have ca_i0:=keepA HX2.out (HCi.out);go_wp2_with fail;go_roundw
      case rel=>exact ⟨k+1,by go_num,by rw [lst_less HIS.out HE.out HLE.out],by omega,Hi27 HX2.out⟩
      case measure=>simp [intOf];omega
     ·have hl2:¬ ((vs k:Nat):Int)<((vs i0:Nat):Int):=by omega
      have HLE:=Hi27 hle;clear hle;have ca_k:=keepA HX1.out (HCa.out);go_wp2_with fail;refine ((HIS.out▸HCL.out _ HX1.out k hlt)).mono ?_;rintro e w2 ⟨rfl,e2⟩;have HX2:=Hi27 (HX1.out.trans e2);clear e2 ca_k;have ca_i0:=keepA HX2.out (HCi.out);go_wp2_with fail;go_roundw
      case rel=>exact ⟨k+1,by go_num,by rw [lst_more HIS.out HE.out HLE.out],by omega,Hi27 HX2.out⟩
      case measure=>simp [intOf];omega
    ·have HIS:=Hi27 (Bool.not_eq_true _▸his:is k=false);clear his;have ca_k:=keepA HX1.out (HCa.out);go_wp2_with fail;refine ((HIS.out▸HCL.out _ HX1.out k hlt)).mono ?_;rintro e w2 ⟨rfl,e2⟩;have HX2:=Hi27 (HX1.out.trans e2);clear e2 ca_k;go_wp2_with fail;go_roundw
     case rel=>exact ⟨k+1,by go_num,by rw [lst_no HIS.out,HE.out],by omega,Hi27 HX2.out⟩
     case measure=>simp [intOf];omega
  ·have hk2:k=n:=by omega
   have hge:¬ (k:Int)<(n:Int):=by omega
   rw [show lst vs is k=lst vs is n from by rw [hk2]];go_wp2;go_ret;exact ⟨rfl,HX1.out⟩
section
variable {P:LP} {T:Tab} {p:Nat} {M:TM} {w w' X:World}
theorem TMem.map (h:TMem P T p M w) (f:∀ k C t,M.S p P.m k->Blk w k C t->Blk w' k C t):TMem P T p M w' where
 tab:=let ⟨C,a,b⟩:=h.tab;⟨C,f _ _ _ (Or.inl rfl) a,b⟩
 bas:=fun k=>let ⟨C,a,b⟩:=h.bas k;⟨C,f _ _ _ (Or.inr (Or.inl rfl)) a,b⟩
 lin:=fun k=>let ⟨C,a,b⟩:=h.lin k;⟨C,f _ _ _ (Or.inr (Or.inr (Or.inl rfl))) a,b⟩
 oth:=fun k=>let ⟨C,a,b⟩:=h.oth k;⟨C,f _ _ _ (Or.inr (Or.inr (Or.inr (Or.inl rfl)))) a,b⟩
 wor:=fun k=>let ⟨C,a,b⟩:=h.wor k;⟨C,f _ _ _ (Or.inr (Or.inr (Or.inr (Or.inr (Or.inl rfl))))) a,b⟩
 fac:=fun k i hi=>let ⟨C,a,b⟩:=h.fac k i hi;⟨C,f _ _ _ (Or.inr (Or.inr (Or.inr (Or.inr (Or.inr ⟨i,hi,rfl⟩))))) a,b⟩
 inj:=h.inj
 fw:=h.fw
 bo:=h.bo
 caps:=h.caps
theorem rd_oa {n k cap:Nat} {x:Option Addr} {t:TypeId} {g:Nat->Value} (hc:n<=cap/\cap<=maxLen) (h:0<n->∃ C,Blk w k C t/\∀ i,i<n->C[i]?=some (g i)):Rd w (.slice (oa n k x) n cap) n g :=
 ⟨_,_,rfl,hc.1,hc.2,fun i hi=>⟨⟨k,0,none⟩,oa_pos (by omega),by
  obtain ⟨C,a,b⟩:=h (by omega);have e:(⟨k,0,none⟩:Addr).add i=⟨k,i,none⟩:=by unfold Addr.add;split <;> simp_all
  rw [e];exact a.cell i (b i hi)⟩⟩
def TM.vb (M:TM) (P:LP):Value:=.slice (oa P.m M.bb M.bx) P.m M.bc
def TM.vl (M:TM) (P:LP):Value:=.slice (oa P.m M.lb M.lx) P.m M.lc
def TM.vo (M:TM) (P:LP):Value:=.slice (oa P.n M.ob M.ox) P.n M.oc
def TM.vw (M:TM) (P:LP):Value:=.slice (oa P.n M.wb M.wx) P.n M.wcap
def TM.vf (M:TM) (P:LP) (i:Nat):Value:=.slice (oa P.n (M.fb i) (M.fx i)) P.n (M.fc i)
theorem TMem.tr (h:TMem P T p M w):TR P T w p (M.vb P) (M.vl P) (M.vo P) (M.vw P) (M.vf P) where
 tab:=let ⟨C,a,b⟩:=h.tab;⟨C,a,b⟩
 b:=rd_oa h.caps.b h.bas
 o:=rd_oa h.caps.o h.oth
 l:=⟨_,_,rfl,h.caps.l.1,h.caps.l.2,fun i hi=>let ⟨C,a,b⟩:=h.lin (by omega);⟨M.lb,oa_pos (by omega),a.cell _ (b i hi).1,a.cell _ (b i hi).2⟩⟩
 wf:=rd_oa h.caps.w h.wor
 f:=fun i hi=>rd_oa (h.caps.f i hi) (fun hn=>let ⟨C,a,b⟩:=h.fac hn i hi;⟨C,a,b⟩)
structure TA (X:World) (P:LP) (T:Tab) (p:Nat) (M:TM) (w:World):Prop where
 mem:TMem P T p M w
 up:∀ k,M.S p P.m k->X.heap.size<=k
 lt:∀ k,M.S p P.m k->k<w.heap.size
theorem TA.ext (h:TA X P T p M w) (e:Ext w w'):TA X P T p M w':=⟨h.mem.map fun _ _ _ _ b=>b.ext e,h.up,fun k hk=>Nat.lt_of_lt_of_le (h.lt k hk) e.size⟩
theorem TA.alloc (h:TA X P T p M w) (o:Obj):TA X P T p M (w.alloc o):=h.ext ((Ext.refl _).alloc o)
theorem TA.drew (h:TA X P T p M w):TA X P T p M w.drew:=h.ext (Ext.refl _).drew
theorem TA.other (h:TA X P T p M w) {a:Addr} (u:Value) (hk:∀ k,M.S p P.m k->k≠a.block):TA X P T p M (w.setCell a u):=⟨h.mem.map fun k _ _ hs b=>b.other u (hk k hs),h.up,fun k hk=>by rw [World.size_setCell];exact h.lt k hk⟩
theorem TA.mv {Y:World} {S:Nat->Prop} (h:TA X P T p M w) (m:Mv Y w S w') (hs:∀ k,M.S p P.m k->¬ S k):TA X P T p M w':=⟨h.mem.map fun k _ _ hk b=>m.blk b (hs k hk),h.up,fun k hk=>Nat.lt_of_lt_of_le (h.lt k hk) m.size⟩
theorem TA.ne (h:TA X P T p M w) {b:Nat} (hb:w.heap.size<=b):∀ k,M.S p P.m k->k≠b:=fun k hk e=>by have:=h.lt k hk;omega
theorem TA.tr (h:TA X P T p M w):TR P T w p (M.vb P) (M.vl P) (M.vo P) (M.vw P) (M.vf P):=h.mem.tr
theorem TA.c0 (h:TA X P T p M w):w.cell? ⟨p,0,none⟩=some (.int .i64 (P.n:Int)):=let ⟨_,a,b⟩:=h.mem.tab;a.cell 0 b.1
theorem TA.c1 (h:TA X P T p M w):w.cell? ⟨p,1,none⟩=some (M.vb P):=let ⟨_,a,b⟩:=h.mem.tab;a.cell 1 b.2.1
theorem TA.c2 (h:TA X P T p M w):w.cell? ⟨p,2,none⟩=some (M.vl P):=let ⟨_,a,b⟩:=h.mem.tab;a.cell 2 b.2.2.1
theorem TA.c3 (h:TA X P T p M w):w.cell? ⟨p,3,none⟩=some (M.vo P):=let ⟨_,a,b⟩:=h.mem.tab;a.cell 3 b.2.2.2.1
theorem TA.c4 (h:TA X P T p M w):w.cell? ⟨p,4,none⟩=some (.string (qs T.wc)):=let ⟨_,a,b⟩:=h.mem.tab;a.cell 4 b.2.2.2.2.1
theorem TA.c5 (h:TA X P T p M w):w.cell? ⟨p,5,none⟩=some (M.vw P):=let ⟨_,a,b⟩:=h.mem.tab;a.cell 5 b.2.2.2.2.2
theorem TM.piv_S {M:TM} {row kz n p m k:Nat} (h:(M.piv row kz n).S p m k):M.S p m k∨k=kz:=by
 rcases h with h|h|h|h|h|⟨i,hi,h⟩
 ·exact Or.inl (Or.inl h)
 ·exact Or.inl (Or.inr (Or.inl h))
 ·exact Or.inl (Or.inr (Or.inr (Or.inl h)))
 ·exact Or.inl (Or.inr (Or.inr (Or.inr (Or.inl h))))
 ·exact Or.inl (Or.inr (Or.inr (Or.inr (Or.inr (Or.inl h)))))
 ·simp only [TM.piv] at h;split at h
  ·exact Or.inr h
  ·exact Or.inl (Or.inr (Or.inr (Or.inr (Or.inr (Or.inr ⟨i,hi,h⟩)))))
theorem pivot_t {q row at_:Nat} (g:Gd X) (hX:Ext X w) (h:TA X P T p M w) (hr:row<P.m) (ha:at_<P.n) (hk:T.f row at_≠0) (hn:P.n<=1000) (hm:P.m<=1000) (hq1:1<=q) (hq2:q<=400) (Q:TQ P T q) :
    Calls Tryz.prog 200 #[.pointer (some ⟨p,0,none⟩),.int .i64 row,.int .i64 at_] w fun e w'=>e = .returned (.tuple #[])/\Mv X w (M.S p P.m) w'/\∃ kz,w.heap.size<=kz/\TA X P (T.pivot row at_) p (M.piv row kz P.n) w' :=
 (pivot_c P T p M row at_ q X w g hX h.up h.mem hr ha hk hn hm hq1 hq2 Q.c Q.f Q.wc Q.wf).mono fun e w' ⟨h1,h2,kz,h3,h4⟩ =>
  ⟨h1,h2,kz,h3,h4,fun k hk=>(TM.piv_S hk).elim (h.up k) (fun e=>by have:=hX.size;omega),fun k hk=>(TM.piv_S hk).elim (fun hs=>Nat.lt_of_lt_of_le (h.lt k hs) h2.size) (fun e=>by
   obtain ⟨C,b,_⟩:=h4.fac (by omega) row hr;have:=b.lt;simp only [TM.piv,if_pos] at this;omega)⟩
end
end Go.Proofs.YtmahadmefplbnaaGreatDoor
