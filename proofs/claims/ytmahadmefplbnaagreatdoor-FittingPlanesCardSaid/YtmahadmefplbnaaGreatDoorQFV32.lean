/- Part 32. -/
import Derived.Test.YtmahadmefplbnaaGreatDoorQFVB
import Derived.Test.YtmahadmefplbnaaGreatDoorQFV31
import Derived.Lib.AppendZeros
set_option maxRecDepth 100000
set_option maxHeartbeats 2000000
open Go.Proofs.Tryz
set_option linter.unusedSimpArgs false
set_option linter.unusedVariables false
namespace Go.Proofs.YtmahadmefplbnaaGreatDoor
open Go Go.RowKit
def iS(is:Nat->Bool):Nat->Bool
 | 0=>false
 | k+1=>iS is k || is k
theorem any_false{is:Nat->Bool}:∀ {n:Nat},iS is n=false ↔ ∀ i,i<n->is i=false
 | 0=>⟨fun _ i hi=>ae,fun _=>rfl⟩
 | n+1=>by
  rw[iS,Bool.or_eq_false_iff,any_false];exact⟨fun⟨h1,h2⟩ i hi=>by
   by_cases e:i=n
   ·rw[e];exact h2
   ·exact h1 i ae,fun h=>⟨fun i hi=>h i ae,h n ae⟩⟩
theorem any_true{is:Nat->Bool}{n:Nat}:iS is n=true ↔ ∃ i,i<n/\is i=true:=by
 rw[← Bool.not_eq_false,any_false];exact⟨fun h=>Classical.not_not.1 (fun h'=>h (fun i hi=>by have:=fun e=>h' ⟨i,hi,e⟩;simpa using this)),fun⟨i,h1,h2⟩ h=>by rw[h i h1] at h2;cases h2⟩
theorem FH{is:Nat->Bool}{n:Nat}:decide (0<=fi is n)=iS is n:=by
 rcases ki is n with⟨h1,h2⟩|⟨k,h1,h2,h3,_⟩
 ·rw[any_false.2 h2,h1];decide
 ·rw[any_true.2 ⟨k,h1,h3⟩,h2];simp
def yI(H:Nat->Value)(m:Nat):Prop:=∀ i,i<m->∃ s:ByteArray,H i = .string s/\rq s=true/\s.size<=1000000
def vK(X w:World)(v:Value)(n:Nat):Prop:=n<=10000/\∃ G,bB X w 34 1 v n G/\yI G n
theorem Ik{s:ByteArray}(h:rq s=true)(hl:s.size<=1000000):yI (fun _ => .string s) 1:=fun _ _=>⟨s,rfl,h,hl⟩
theorem vK.iH{X w:World}{v:Value}{n:Nat}(h:vK X w v n):∃ a k c,v = .slice a k c:=let ⟨_,_,o,_⟩:=h;o.iH
theorem vK.ext{X w w':World}{v:Value}{n:Nat}(h:vK X w v n)(e:Ext w w'):vK X w' v n:=let ⟨a,G,o,r⟩:=h;⟨a,G,o.ext e,r⟩
theorem vK.not{X w:World}{v:Value}{n k:Nat}{C:Array Value}{t:TypeId}(h:vK X w v n)(b:aq w k C t)(ht:34≠t):¬ ep v k:=let ⟨_,_,o,_⟩:=h;o.aI b ht
def ID(w:World)(e:Ending)(w':World):Prop:=∃ v n,e = .returned v/\Ext w w'/\vK w w' v n/\n<=3000
theorem vK.mono{X w W:World}{v:Value}{n:Nat}(h:vK w W v n)(e:Ext X w):vK X W v n:=by
 obtain⟨a,G,o,r⟩:=h;refine⟨a,G,?_,r⟩;rcases o with o|⟨k,cap,C,h1,h2,h3⟩
 ·exact Or.inl o
 ·exact Or.inr ⟨k,cap,C,h1,Nat.le_trans e.size h2,h3⟩
section
variable {P:Program} {X w:World} {n m c:Nat} {v:Value} {ao:Option Addr} {H:Nat->Value}
theorem fD {o:Oper} {a:Act} {Q:Exit->Act->World->Prop} {K:Act->World->Prop} {s x:Operand} (ho:o.op = .call { callee:=.builtin .append,args:=#[s,x],argTypes:=#[30,30] })
    (hs:a.eval s=v) (hx:a.eval x = .slice ao m c) (hX:Ext X w) (h:vK X w v n) (hr:Rd w (.slice ao m c) m H) (hH:yI H m) (hl:n+m<=10000)
    (hK:∀ b k c w',vK X w' (.slice b k c) (n+m)->Mv X w (ep v) w'->K (a.put o.dst (.slice b k c)) w'):o.wp prog a w K Q:=by
 obtain⟨_,G,ho1,hG⟩:=h;have one:∀ j,j<m->(H j).oneCell'=true:=fun j hj=>by obtain⟨s,e,_⟩:=hH j hj;rw[e];rfl
 have rt:yI (app (n*1) G H) (n+m):=fun i hi=>by
  by_cases e:i<n
  ·rw[fm ae];exact hG i e
  ·rw[dO ae];have:=hH (i-n) ae;rwa[Nat.mul_one]
 have low:∀ k,ep v k->X.heap.size<=k:=fun k hk=>(ho1.lt hk).1
 have fin0:∀ (e:m=0) (hr:(Builtin.append_ #[30,30] o.type #[v,.slice ao m c]).run prog w = .ok v w),o.wp prog a w K Q:=fun e hr=>by
  obtain⟨b,k,c',rfl⟩:=ho1.iH;unfold Oper.wp execOp;simp only[ho,resolve,invoke,builtin,Sem.run_bind,Sem.run_pure,Result.andThen_ok,List.map_toArray,List.map_cons,List.map_nil,hs,hx,hr];exact hK _ _ _ w ⟨hl,G,by rw[e,Nat.add_zero];exact ho1,by rw[e,Nat.add_zero];exact hG⟩ (Mv.refl hX low)
 obtain⟨ao',c',e1,_,_,hc⟩:=hr;cases e1;by_cases hm:m=0
 ·refine fin0 hm ?_;subst hm;obtain⟨i,hi⟩:∃ i,prog.info? 34=some i:=by
   cases h:prog.info? 34 with
   | none=>have:=gw;rw[h] at this;cases this
   | some i=>exact⟨i,rfl⟩
  have ho2:=ho1;rcases ho2 with⟨rfl,rfl⟩|⟨k,cap,C,rfl,_,hB,hnc,_⟩
  ·cases ao <;> simp[Builtin.append_,run_underlying fZ,sizeOf,typeInfo,hi,Builtin.lenOf,Builtin.firstCells,loadCells,loadCellsFrom]
  ·cases ao <;> simp[Builtin.append_,run_underlying fZ,sizeOf,typeInfo,hi,Builtin.lenOf,Builtin.firstCells,loadCells,loadCellsFrom,hnc,storeCells]
 ·obtain ⟨ad,rfl,_⟩:=hc 0 ae;exact fL (X:=X) (G:=G) (H:=H) ho hs hx fZ gw rfl hX ho1 (fun _=>ae) (fun j hj=>by obtain ⟨ad',e,h⟩:=hc j ae;rw [Option.some.inj e];exact h) (fun j hj=>one j ae) (by unfold maxLen;omega) ae
   (fun b k c w' hA=>hK b k c w' ⟨hl,_,hA.own,rt⟩ hA.mv)
end
theorem pL(t:ByteArray)(w:World)(g:Gd w)(hl:t.size<=1000000):Calls prog 61 #[.string t] w (aD w (.bool (!rq t))):=by
 have HG:=ai g;clear g;go_enter func61,ntmps61;by_cases h:rq t=true
 ·go_wp2_with fail;refine cto (dw t w HG.o hl h) fun w1 e1=>?_
  have HX1:Hid (Ext w w1):=ai ((Ext.refl w).trans e1);clear e1;go_wp2;go_ret;exact⟨by rw[h];rfl,HX1.o⟩
 ·rename _=>h0
  have h:rq t=false:=by simpa using h0
  go_wp2_with fail;refine cto (fK t w HG.o hl h) fun w1 e1=>?_
  have HX1:Hid (Ext w w1):=ai ((Ext.refl w).trans e1);clear e1;go_wp2;go_ret;exact⟨by rw[h];rfl,HX1.o⟩
theorem Gv(ao_:Option Addr)(n cap fn:Nat)(cp:Array Value)(a:Nat->Value)(is:Nat->Bool)(w:World)(hl:∀ i,i<n->∃ la,ao_=some la/\w.cell? (la.add i)=some (a i))(hcl:∀ W,Ext w W->∀ k:Nat,k<n->Calls prog fn (#[a k] ++ cp) W (aD W (.bool (is k))))(hn:n<=1000000)(hcf:∀ a_ W,(callFunc fn a_).run prog W = .ok (.enter fn a_) W):Calls prog 184 #[.slice ao_ n cap,.func (.func fn) #[] cp] w (aD w (.int .i64 (fi is n))):=by
 have HL:=ai hl;have HCL:=ai hcl;clear hl hcl;go_enter func184,ntmps184;go_wp2_with fail;go_loopw [8] (fun x0_ wx=>∃ k:Nat,x0_ = .int .i64 k/\k<=n/\Hid (∀ i,i<k->is i=false)/\Hid (Ext w wx)) (fun x0_ _=>n-(intOf x0_).toNat)
 case atStart=>exact⟨0,rfl,Nat.zero_le _,ai (fun i hi=>absurd hi (Nat.not_lt_zero i)),ai (Ext.refl w)⟩
 case round =>
  rename World=>w1
  obtain⟨k,rfl,hkk,HGk,HH⟩:=hrel;have HX1:=ai HH.o;clear HH;by_cases hlt:k<n
  ·have hlt2:(k:Int)<((n:Nat):Int):=ae;obtain⟨la,rfl,zl_⟩:=HL.o k hlt;have HCl:=ai zl_;clear zl_;by_cases hi:is k=true
   ·have HIS:=ai hi;clear hi;have cl_k:=ax HX1.o (HCl.o);go_wp2_with fail;refine((HIS.o▸HCL.o _ HX1.o k hlt)).mono ?_;rintro e w2 ⟨rfl,e2⟩;have HX2:=ai (HX1.o.trans e2);clear e2 cl_k;go_wp2;go_ret;exact⟨by rw[uX hlt HGk.o HIS.o];rfl,HX2.o⟩
   ·have HIS:Hid (is k=false):=ai (by simpa using hi);clear hi;have cl_k:=ax HX1.o (HCl.o);go_wp2_with fail;refine((HIS.o▸HCL.o _ HX1.o k hlt)).mono ?_;rintro e w2 ⟨rfl,e2⟩;have HX2:=ai (HX1.o.trans e2);clear e2 cl_k;go_wp2_with fail;go_roundw
    case rel=>exact⟨k+1,by go_num,ae,ai (wV HGk.o HIS.o),ai HX2.o⟩
    case measure=>simp[intOf];omega
  ·have hk2:k=n:=ae;have hge:¬ (k:Int)<((n:Nat):Int):=ae;go_wp2;go_ret;exact⟨by rw[l6 (by rw[← hk2];exact HGk.o)];rfl,HX1.o⟩
theorem Bj(ao_:Option Addr)(n cap fn:Nat)(cp:Array Value)(a:Nat->Value)(is:Nat->Bool)(w:World)(hl:∀ i,i<n->∃ la,ao_=some la/\w.cell? (la.add i)=some (a i))(hcl:∀ W,Ext w W->∀ k:Nat,k<n->Calls prog fn (#[a k] ++ cp) W (aD W (.bool (is k))))(hn:n<=1000000)(hcf:∀ a_ W,(callFunc fn a_).run prog W = .ok (.enter fn a_) W):Calls prog 112 #[.slice ao_ n cap,.func (.func fn) #[] cp] w (aD w (.bool (iS is n))):=by
 have HL:=ai hl;have HCL:=ai hcl;clear hl hcl;go_enter func112,ntmps112;go_wp2_with fail;refine cto (Gv ao_ n cap fn cp a is w HL.o HCL.o hn hcf) fun w1 e1=>?_
 have HX1:Hid (Ext w w1):=ai ((Ext.refl w).trans e1);clear e1;go_wp2;go_ret;exact⟨by rw[← FH];rfl,HX1.o⟩
theorem Fv(n:Nat)(w:World)(hn:n<=10000):Calls prog 207 #[.slice none 0 0,.int .i64 (n:Int)] w fun e w'=>∃ a k c,e = .returned (.slice a k c)/\Ext w w'/\vK w w' (.slice a k c) 0:=by
 have Ew:∀ G,yI G 0:=fun G i hi=>absurd hi (Nat.not_lt_zero i)
 by_cases h0:n=0
 ·subst h0;go_enter func207,ntmps207;go_wp2;go_ret;exact⟨_,_,_,rfl,Ext.refl _,ae,fun _ => .int .i64 0,bB.nil _ _ _ _ _,Ew _⟩
 ·have hp:0<n:=ae;obtain⟨i,hi,hz,hs,hb⟩:∃ i,prog.info? 34=some i/\i.zero=some (.string ⟨#[]⟩)/\i.size=1/\i.bytes=16:=by
   cases h:prog.info? 34 with
   | none=>have:=gw;rw[h] at this;cases this
   | some i=>have:=gw;rw[h] at this;simp only[Option.map_some,Option.some.injEq,Prod.mk.injEq] at this;exact⟨i,rfl,this.1,this.2.1,this.2.2⟩
  obtain⟨cap,hcap⟩:∃ cap,grownCap w n 0 34=cap:=⟨_,rfl⟩
  have hr:=Lib.run_append_nil_zeros (P:=prog) w 30 3 30 34 i (.string ⟨#[]⟩) .i64 .i64 fZ ag hi hz n hp ae ae (by rw[hb];omega);rw[hcap] at hr;have hge:n<=cap:=hcap▸grownCap_ge w n 0 34;have hcm:cap<=maxLen:=hcap▸grownCap_le_maxLen w n 0 34 (by unfold maxLen;omega);have hx:Ext w (w.drew.alloc (.cells (Builtin.zeroCells (Value.string ⟨#[]⟩).cells n ++ Builtin.zeroCells (Value.string ⟨#[]⟩).cells (cap-n)) 34)):=(Ext.refl w).drew.alloc _;have ho:bB w (w.drew.alloc (.cells (Builtin.zeroCells (Value.string ⟨#[]⟩).cells n ++ Builtin.zeroCells (Value.string ⟨#[]⟩).cells (cap-n)) 34)) 34 1 (.slice (some ⟨w.heap.size,0,none⟩) 0 cap) 0 (fun _ => .int .i64 0) :=
   Or.inr ⟨_,_,_,rfl,Nat.le_refl _,aq.new _ _ _,Nat.zero_le _,hcm,by simp only[Array.size_append,size_zeroCells];show n*1+(cap-n)*1=cap*1;omega,fun i hi=>ae⟩
  have HX:=ai hx;have HO:=ai ho;have hne:¬ (n:Int)<=0:=ae;have hlt:¬ (n:Int)<0:=ae;clear hx ho hcap;go_enter func207,ntmps207;go_wp2_with (at_builtin;refine Lib.wpList_append_run _ rfl _ _ _ _ rfl _ _ rfl rfl _ _ hr ?_);clear hr;go_wp2;go_ret;exact⟨_,_,_,rfl,HX.o,ae,_,HO.o,Ew _⟩
theorem pC{w X:World}{v:Value}{n:Nat}(g:Gd w)(h:vK X w v n):Calls prog 112 #[v,.func (.func 61) #[] #[]] w (aD w (.bool false)):=by
 obtain⟨hn,G,ho,hG⟩:=h;obtain⟨ao,cap,rfl,_,_,hc⟩:=ho.rd;have:=Bj ao n cap 61 #[] G (fun _=>false) w hc (fun W e k hk=>by
  obtain⟨s,e1,e2,e3⟩:=hG k hk;rw[e1];have h:=pL s W (g.ext e) e3;rw[e2] at h;exact h) ae (fun _ _=>ag)
 rwa[any_false.2 (fun _ _=>rfl)] at this
theorem Bi(kq:Nat)(w:World)(o1:Option Addr)(m1 c1:Nat)(H1:Nat->Value)(o2:Option Addr)(m2 c2:Nat)(H2:Nat->Value)(o3:Option Addr)(m3 c3:Nat)(H3:Nat->Value)(bq:aq w kq #[.slice o1 m1 c1,.slice o2 m2 c2,.slice o3 m3 c3] 30)(r1:Rd w (.slice o1 m1 c1) m1 H1)(t1:yI H1 m1)(l1:m1<=1000)(r2:Rd w (.slice o2 m2 c2) m2 H2)(t2:yI H2 m2)(l2:m2<=1000)(r3:Rd w (.slice o3 m3 c3) m3 H3)(t3:yI H3 m3)(l3:m3<=1000):Calls prog 129 #[.slice (some ⟨kq,0,none⟩) 3 3] w (ID w):=by
 have HBq:=ai bq;have HR1:=ai r1;have HR2:=ai r2;have HR3:=ai r3;have HT1:=ai t1;have HT2:=ai t2;have HT3:=ai t3;clear bq r1 r2 r3 t1 t2 t3;have z1:¬ (m1:Int)<0:=Int.not_lt.2 (Int.natCast_nonneg _);have z2:¬ (m1:Int)+(m2:Int)<0:=ae;have z3:¬ (m1:Int)+(m2:Int)+(m3:Int)<0:=ae;go_enter func129,ntmps129;go_wp2_with fail;refine wp_loop_rounds 4 ?_;rw[rounds_succ];have cq_0:=HBq.o.cell (0) rfl;go_wp2_with fail;rw[rounds_succ];clear cq_0;have cq_1:=HBq.o.cell (1) rfl;go_wp2_with fail;rw[rounds_succ];clear cq_1;have cq_2:=HBq.o.cell (2) rfl;go_wp2_with fail;rw[rounds_succ];clear cq_2;go_wp2_with fail;refine(Fv (m1+m2+m3) _ ae).mono ?_;rintro e w1 ⟨ga,gn,gc,rfl,e1,ha_⟩;have HX1:Hid (Ext w w1):=ai ((Ext.refl w).trans e1);have HBq_1:=ai (HBq.o.ext e1);clear e1;have HAR1:=ai ha_;clear ha_;go_wp2_with fail;refine wp_loop_rounds 4 ?_;rw[rounds_succ];have cq_0:=HBq_1.o.cell (0) rfl;go_wp2_with (
  at_builtin;refine wpList_plain rfl fun K_ hK_=>fD (X:=w) (n:=0) (m:=m1) rfl rfl rfl HX1.o HAR1.o (HR1.o.ext HX1.o) HT1.o ae (fun a2_ n2_ c2_ w2 ha_ hm_=>hK_ _ _ ?_)
  have HX2:Hid (Ext w w2):=ai hm_.ext;have HBq_2:=ai (hm_.az HBq_1.o (HAR1.o.not HBq_1.o af));have HAR2:=ai ha_;clear ha_ hm_ cq_0
 )
 rw[rounds_succ];have cq_1:=HBq_2.o.cell (1) rfl;go_wp2_with (
  at_builtin;refine wpList_plain rfl fun K_ hK_=>fD (X:=w) (n:=(0+m1)) (m:=m2) rfl rfl rfl HX2.o HAR2.o (HR2.o.ext HX2.o) HT2.o ae (fun a3_ n3_ c3_ w3 ha_ hm_=>hK_ _ _ ?_)
  have HX3:Hid (Ext w w3):=ai hm_.ext;have HBq_3:=ai (hm_.az HBq_2.o (HAR2.o.not HBq_2.o af));have HAR3:=ai ha_;clear ha_ hm_ cq_1
 )
 rw[rounds_succ];have cq_2:=HBq_3.o.cell (2) rfl;go_wp2_with (
  at_builtin;refine wpList_plain rfl fun K_ hK_=>fD (X:=w) (n:=((0+m1)+m2)) (m:=m3) rfl rfl rfl HX3.o HAR3.o (HR3.o.ext HX3.o) HT3.o ae (fun a4_ n4_ c4_ w4 ha_ hm_=>hK_ _ _ ?_)
  have HX4:Hid (Ext w w4):=ai hm_.ext;have HAR4:=ai ha_;clear ha_ hm_ cq_2
 )
 rw[rounds_succ];go_wp2;go_ret;exact⟨_,_,rfl,HX4.o,HAR4.o,ae⟩
theorem pX(kd:Int)(val:ByteArray)(w:World)(g:Gd w)(o1:Option Addr)(m1 c1:Nat)(H1:Nat->Value)(o2:Option Addr)(m2 c2:Nat)(H2:Nat->Value)(o3:Option Addr)(m3 c3:Nat)(H3:Nat->Value)(r1:Rd w (.slice o1 m1 c1) m1 H1)(t1:yI H1 m1)(l1:m1<=1000)(r2:Rd w (.slice o2 m2 c2) m2 H2)(t2:yI H2 m2)(l2:m2<=1000)(r3:Rd w (.slice o3 m3 c3) m3 H3)(t3:yI H3 m3)(l3:m3<=1000)(hv:kd=1->rq val=true)(hvs:val.size<=1000000):Calls prog 49 #[.agg #[.int .i64 kd,.string val,.slice o1 m1 c1,.slice o2 m2 c2,.slice o3 m3 c3]] w (aD w (.bool true)):=by
 have HG:=ai g;have HR1:=ai r1;have HR2:=ai r2;have HR3:=ai r3;have HT1:=ai t1;have HT2:=ai t2;have HT3:=ai t3;clear g r1 r2 r3 t1 t2 t3;go_enter func49,ntmps49;go_wp2_with fail;refine(Bi _ _ o1 m1 c1 H1 o2 m2 c2 H2 o3 m3 c3 H3 (aq.nw (#[.slice o1 m1 c1,.slice o2 m2 c2,.slice o3 m3 c3]) 30) (HR1.o.ext (((Ext.refl w).alloc _).alloc _)) HT1.o l1 (HR2.o.ext (((Ext.refl w).alloc _).alloc _)) HT2.o l2 (HR3.o.ext (((Ext.refl w).alloc _).alloc _)) HT3.o l3).mono ?_;rintro e w1 ⟨v_,gk,rfl,e1,ha_,hgk⟩;have HX1:Hid (Ext w w1):=ai ((((Ext.refl w).alloc _).alloc _).trans e1);have HB0_1:Hid (aq w1 (w.heap.size) (#[.int .i64 kd,.string val,.slice o1 m1 c1,.slice o2 m2 c2,.slice o3 m3 c3]) 38):=ai ((((aq.nw (#[.int .i64 kd,.string val,.slice o1 m1 c1,.slice o2 m2 c2,.slice o3 m3 c3]) 38).alloc _)).ext e1);have HB1_1:Hid (aq w1 (w.heap.size+1) (#[.slice o1 m1 c1,.slice o2 m2 c2,.slice o3 m3 c3]) 30):=ai (((aq.nw (#[.slice o1 m1 c1,.slice o2 m2 c2,.slice o3 m3 c3]) 30)).ext e1);have HGEB0:Hid (w.heap.size<=w.heap.size):=ai (Nat.le_refl _);have HGEB1:Hid (w.heap.size<=w.heap.size+1):=ai ae;clear e1;obtain⟨ga,gn,gc,rfl⟩:=ha_.iH;have HAR1:=ai (ha_.mono (((Ext.refl w).alloc _).alloc _));clear ha_;go_upto_region 2 with fail
 by_cases h1:kd=1
 ·have HV:=ai (hv h1);clear hv;have c0_0:=HB0_1.o.cell 0 rfl;have c0_1:=HB0_1.o.cell 1 rfl;go_wp2_with (
   at_builtin;refine wpList_plain rfl fun K_ hK_=>fD (X:=w) (n:=gk) (m:=1) rfl rfl rfl (HX1.o.alloc _) (HAR1.o.ext (by first|exact(Ext.refl _).alloc _|exact Ext.refl _)) (Rd.az (aq.nw (#[.string val]) 34) (Nat.le_refl _) af (fun i hi=>by obtain rfl:i=0:=ae;rfl)) (Ik HV.o hvs) ae (fun a2_ n2_ c2_ w2 ha_ hm_=>hK_ _ _ ?_)
   have HX2:Hid (Ext w w2):=ai hm_.ext;have HAR2:=ai ha_;clear ha_ hm_ c0_0 c0_1
  )
  refine cto (pC (HG.o.ext (HX2.o)) HAR2.o) fun w3 e3=>?_
  have HX3:=ai (HX2.o.trans e3);clear e3;go_wp2;go_ret;exact⟨rfl,HX3.o⟩
 ·have c0_0:=HB0_1.o.cell 0 rfl;go_wp2_with fail;refine cto (pC (HG.o.ext (HX1.o)) HAR1.o) fun w2 e2=>?_
  have HX2:=ai (HX1.o.trans e2);have HB0_2:=ai (HB0_1.o.ext e2);clear e2 c0_0;go_wp2;go_ret;exact⟨rfl,HX2.o⟩
noncomputable def fW (t:Nat->ByteArray) (m k:Nat):Int:=if m≠k then 5 else if iS (fun i=>!rq (t i)) m=true then 2 else 0
theorem GF{w:World}{v:Value}{m:Nat}{t:Nat->ByteArray}(g:Gd w)(h:Rs w v m t)(hl:∀ i,i<m->(t i).size<=1000000)(hm:m<=1000000):Calls prog 112 #[v,.func (.func 61) #[] #[]] w (aD w (.bool (iS (fun i=>!rq (t i)) m))):=by
 obtain⟨ao,cap,rfl,_,_,hc⟩:=h;exact Bj ao m cap 61 #[] (fun i => .string (t i)) (fun i=>!rq (t i)) w hc (fun W e k hk=>pL (t k) W (g.ext e) (hl k hk)) hm (fun _ _=>ag)
theorem zY(ao_:Option Addr)(ac m k:Nat)(t:Nat->ByteArray)(w:World)(g:Gd w)(hr:Rs w (.slice ao_ m ac) m t)(hl:∀ i,i<m->(t i).size<=1000000)(hm:m<=1000000):Calls prog 120 #[.slice ao_ m ac,.int .i64 (k:Int)] w (aD w (.int .i64 (fW t m k))):=by
 have HG:=ai g;have HR:=ai hr;have HL:=ai hl;clear g hr hl;go_enter func120,ntmps120;by_cases h1:m≠k
 ·have h2:decide ((m:Int)=(k:Int))=false:=decide_eq_false ae;go_wp2;go_ret;exact⟨by rw[fW,if_pos h1];rfl,(Ext.refl w)⟩
 ·obtain rfl:m=k:=Classical.not_not.1 h1;by_cases h3:iS (fun i=>!rq (t i)) m=true
  ·have HAN:=ai h3;go_wp2_with fail;refine((HAN.o▸GF (HG.o.ext ((Ext.refl w))) (HR.o.ext (Ext.refl w)) HL.o hm)).mono ?_;rintro e w1 ⟨rfl,e1⟩;have HX1:Hid (Ext w w1):=ai ((Ext.refl w).trans e1);clear e1;go_wp2;go_ret;exact⟨by rw[fW,if_neg h1,if_pos h3];rfl,HX1.o⟩
  ·have h4:iS (fun i=>!rq (t i)) m=false:=by simpa using h3
   have HAN:=ai h4;go_wp2_with fail;refine((HAN.o▸GF (HG.o.ext ((Ext.refl w))) (HR.o.ext (Ext.refl w)) HL.o hm)).mono ?_;rintro e w1 ⟨rfl,e1⟩;have HX1:Hid (Ext w w1):=ai ((Ext.refl w).trans e1);clear e1;go_wp2;go_ret;exact⟨by rw[fW,if_neg h1,if_neg h3];rfl,HX1.o⟩
theorem qq{w:World}{v:Value}{m k:Nat}{t:Nat->ByteArray}(g:Gd w)(h:Rs w v m t)(hl:∀ i,i<m->(t i).size<=1000000)(hm:m<=1000000):Calls prog 120 #[v,.int .i64 (k:Int)] w (aD w (.int .i64 (fW t m k))):=by
 have h0:=h;obtain⟨ao,cap,rfl,_⟩:=h;exact zY ao cap m k t w g h0 hl hm
theorem QB.sz{q:Nat}{x:Rat}(h:QB q x)(hq:q<=200):(qs x).size<=1000000:=h.len ae
theorem r7{w:World}{v:Value}{n:Nat}{a:Nat->Rat}(h:Rq w v n a)(g:Gd w)(hq:∀ i,i<n->QB 200 (a i))(hn:n<=60):Calls prog 120 #[v,.int .i64 (n:Int)] w (aD w (.int .i64 0)):=by
 have:=qq (k:=n) (t:=fun i=>qs (a i)) g h (fun i hi=>(hq i hi).sz (Nat.le_refl _)) ae;rwa[fW,if_neg (fun h=>h rfl),if_neg (by rw[Bool.not_eq_true,any_false];intro i hi;simp[eA (hq i hi)])] at this
theorem rz(x:Rat)(w:World)(g:Gd w)(h:QB 200 x):Calls prog 61 #[.string (qs x)] w (aD w (.bool false)):=by
 have:=pL (qs x) w g (h.sz (Nat.le_refl _));rwa[eA h] at this
structure PQ(P:LP):Prop where
 A:∀ i,i<P.m->∀ k,k<P.n->QB 200 (P.A i k)
 B:∀ i,i<P.m->QB 200 (P.B i)
 C:∀ k,k<P.n->QB 200 (P.C k)
theorem tq(P:LP)(vr0 vc:Value)(va:Nat->Value)(w:World)(g:Gd w)(hP:PM P w vr0 vc va)(Q:PQ P)(hn:P.n<=60)(hm:P.m<=300):Calls prog 47 #[.agg #[.int .i64 (P.n:Int),vr0,vc]] w (aD w (.int .i64 0)):=by
 have HG:=ai g;clear g;have HPO:=ai hP.obj;have HPF:=ai hP.kl;have HQA:=ai Q.A;have HQB:=ai Q.B;have HQC:=ai Q.C;clear Q;obtain⟨ro,rcap,rfl,_,_,hrr⟩:=hP.rows;have HRR:=ai hrr;clear hrr hP;have z1:¬ (P.n:Int)<0:=Int.not_lt.2 (Int.natCast_nonneg _);have z2:¬ (60:Int)<(P.n:Int):=ae;have z3:¬ (300:Int)<(P.m:Int):=ae;go_enter func47,ntmps47;go_wp2_with fail;refine cto (r7 (HPO.o.ext ((Ext.refl w).alloc _)) (HG.o.ext (((Ext.refl w).alloc _))) HQC.o hn) fun w1 e1=>?_
 have HX1:Hid (Ext w w1):=ai (((Ext.refl w).alloc _).trans e1);have HB0_1:Hid (aq w1 (w.heap.size) (#[.int .i64 (P.n:Int),.slice ro P.m rcap,vc]) 32):=ai (((aq.nw (#[.int .i64 (P.n:Int),.slice ro P.m rcap,vc]) 32)).ext e1);have HGEB0:Hid (w.heap.size<=w.heap.size):=ai (Nat.le_refl _);clear e1;have c0_1:=HB0_1.o.cell 1 rfl;go_wp2_with fail;clear c0_1;go_loopw [32] (fun x0_ wx=>∃ k:Nat,x0_ = .int .i64 k/\k<=P.m/\Hid (Ext w wx/\aq wx (w.heap.size) (#[.int .i64 (P.n:Int),.slice ro P.m rcap,vc]) 32)) (fun x0_ _=>P.m-(intOf x0_).toNat)
 case atStart=>exact⟨0,rfl,Nat.zero_le _,ai ⟨HX1.o,HB0_1.o⟩⟩
 case round =>
  rename World=>w2
  obtain⟨k,rfl,hkk,HH⟩:=hrel;have HX2:=ai HH.o.1;have HB0_2:=ai HH.o.2;clear HH;by_cases hlt:k<P.m
  ·have hlt2:(k:Int)<((P.m:Nat):Int):=ae;obtain⟨ra,o_,rfl,zr_,zs_⟩:=HRR.o k hlt;obtain⟨fo,fcap,ef_,_⟩:=HPF.o k hlt;rw[ef_] at zr_;have HFK:=ai (ef_▸HPF.o k hlt);have HCr:=ai zr_;have HCs:=ai zs_;clear zr_ zs_ ef_;have cr_o____k___2:=ax HX2.o (HCr.o);have cr_o____k___2___1:=ax HX2.o (HCs.o);go_upto_region 11 with fail
   refine aw (fun W=>Ext w W/\aq W (w.heap.size) (#[.int .i64 (P.n:Int),.slice (some ⟨ra,o_,none⟩) P.m rcap,vc]) 32/\aq W (w2.heap.size) (#[.slice fo P.n fcap,.string (qs (P.B k))]) 97) ⟨(HX2.o.alloc _),(HB0_2.o.alloc _),(aq.nw (#[.slice fo P.n fcap,.string (qs (P.B k))]) 97)⟩ ?_;rintro w3 ⟨e3,bB0_3,bB1_3⟩;have HX3:=ai e3;have HB0_3:=ai bB0_3;have HB1_3:=ai bB1_3;have HGEB1:Hid (w.heap.size<=w2.heap.size):=ai (HX2.o.size);clear e3 bB0_3 bB1_3 cr_o____k___2 cr_o____k___2___1;have c1_0:=HB1_3.o.cell 0 rfl;have c0_0:=HB0_3.o.cell 0 rfl;go_wp2_with fail;refine cto (r7 (HFK.o.ext HX3.o) (HG.o.ext (HX3.o)) (HQA.o k hlt) hn) fun w4 e4=>?_
   have HX4:=ai (HX3.o.trans e4);have HB0_4:=ai (HB0_3.o.ext e4);have HB1_4:=ai (HB1_3.o.ext e4);clear e4 c1_0 c0_0;have c1_1:=HB1_4.o.cell 1 rfl;go_wp2_with fail;refine cto (rz (P.B k) _ (HG.o.ext (HX4.o)) (HQB.o k hlt)) fun w5 e5=>?_
   have HX5:=ai (HX4.o.trans e5);have HB0_5:=ai (HB0_4.o.ext e5);clear e5 c1_1;go_wp2_with fail;go_roundw
   case rel=>exact⟨k+1,by go_num,ae,ai ⟨HX5.o,HB0_5.o⟩⟩
   case measure=>simp[intOf];omega
  ·have hk2:k=P.m:=ae;have hge:¬ (k:Int)<((P.m:Nat):Int):=ae;go_wp2;go_ret;exact⟨rfl,HX2.o⟩
structure Fr(X W:World):Prop where
 out:Ext X W
theorem Fr.refl(X:World):Fr X X:=⟨Ext.refl X⟩
theorem Fr.ext{X W W':World}(h:Fr X W)(e:Ext W W'):Fr X W':=⟨h.out.trans e⟩
theorem Fr.alloc{X W:World}(h:Fr X W)(o:Obj):Fr X (W.alloc o):=⟨h.out.alloc o⟩
theorem Fr.drew{X W:World}(h:Fr X W):Fr X W.drew:=⟨h.out.drew⟩
theorem Fr.other{X W:World}(h:Fr X W){a:Addr}(u:Value)(hk:X.heap.size<=a.block):Fr X (W.setCell a u):=⟨h.out.setCell hk u⟩
section
variable {P:LP} {q:Nat} {X Y w w':World} {v:Value}
theorem cx.map(h:cx P q X w v)(f:∀ v n g,gJ X w v n g->gJ Y w' v n g):cx P q Y w' v:=by
 rcases h with⟨val,x,y,vp,vd,h1,h2,h3,h4,h5,h6,h7⟩|⟨y,vd,h1,h2,h3,h4⟩|⟨x,d,vp,vd,h1,h2,h3,h4,h5,h6⟩
 ·exact Or.inl ⟨val,x,y,vp,vd,h1,h2,h3,h4,h5,f _ _ _ h6,f _ _ _ h7⟩
 ·exact Or.inr (Or.inl ⟨y,vd,h1,h2,h3,f _ _ _ h4⟩)
 ·exact Or.inr (Or.inr ⟨x,d,vp,vd,h1,h2,h3,h4,f _ _ _ h5,f _ _ _ h6⟩)
theorem cx.ext(h:cx P q X w v)(e:Ext w w'):cx P q X w' v:=h.map fun _ _ _ r=>r.ext e
theorem cx.alloc(h:cx P q X w v)(o:Obj):cx P q X (w.alloc o) v:=h.ext ((Ext.refl _).alloc o)
theorem cx.drew(h:cx P q X w v):cx P q X w.drew v:=h.ext (Ext.refl _).drew
theorem sV{b:Nat}(h:b<X.heap.size):∀ i,X.heap.size<=i->i≠b:=fun i hi e=>ae
theorem cx.other(h:cx P q X w v){a:Addr}(u:Value)(hk:∀ i,X.heap.size<=i->i≠a.block):cx P q X (w.setCell a u) v:=h.map fun _ _ _ ⟨k,C,e,l,b,c⟩=>⟨k,C,e,l,b.other u (hk k l),c⟩
theorem cx.mv{S:Nat->Prop}{Z:World}(h:cx P q X w v)(m:Mv Z w S w')(hs:∀ k,X.heap.size<=k->¬ S k):cx P q X w' v:=h.map fun _ _ _ ⟨k,C,e,l,b,c⟩=>⟨k,C,e,l,m.az b (hs k l),c⟩
theorem aq.cast{W:World}{b:Nat}{cs cs':Array Value}{t:TypeId}(h:aq W b cs t)(e:cs=cs'):aq W b cs' t:=e▸h
theorem cx.mono(h:cx P q X w v)(e:Ext Y X):cx P q Y w v:=h.map fun _ _ _ r=>r.mono e
theorem gJ.iH{n:Nat}{g:Nat->Value}(h:gJ X w v n g):∃ a c,v = .slice a n c:=let ⟨_,_,e,_⟩:=h;⟨_,_,e⟩
theorem Rd.iH{n:Nat}{g:Nat->Value}(h:Rd w v n g):∃ a c,v = .slice a n c:=let ⟨a,c,e,_⟩:=h;⟨a,c,e⟩
theorem cx.shape(h:cx P q X w v):∃ kd vl a m c d n f g h k,v = .agg #[.int .i64 kd,.string vl,.slice a m c,.slice d n f,.slice g h k]:=by
 rcases h with⟨val,x,y,vp,vd,rfl,h2,h3,h4,h5,h6,h7⟩|⟨y,vd,rfl,h2,h3,h4⟩|⟨x,d,vp,vd,rfl,h2,h3,h4,h5,h6⟩
 ·obtain⟨a,c,rfl⟩:=h6.iH;obtain⟨a',c',rfl⟩:=h7.iH;exact⟨_,_,_,_,_,_,_,_,_,_,_,rfl⟩
 ·obtain⟨a,c,rfl⟩:=h4.iH;exact⟨_,_,_,_,_,_,_,_,_,_,_,rfl⟩
 ·obtain⟨a,c,rfl⟩:=h5.iH;obtain⟨a',c',rfl⟩:=h6.iH;exact⟨_,_,_,_,_,_,_,_,_,_,_,rfl⟩
theorem cx.kind {kd:Int} {vl:ByteArray} {u1 u2 u3:Value} (h:cx P q X w (.agg #[.int .i64 kd,.string vl,u1,u2,u3])) :
    (kd=1/\∃ val x y,vl=qs val/\ey P val x y/\QB q val/\((∀ j,j<P.n->QB q (x j))/\Nq X w u1 P.n x)/\((∀ i,i<P.m->QB q (y i))/\Nq X w u2 P.m y)/\u3 = .slice none 0 0) ∨
    (kd=2/\vl=⟨#[]⟩/\∃ y,dC P y/\((∀ i,i<P.m->QB q (y i))/\Nq X w u2 P.m y)/\u1 = .slice none 0 0/\u3 = .slice none 0 0) ∨
    (kd=3/\vl=⟨#[]⟩/\∃ x d,dX P x d/\((∀ j,j<P.n->QB q (x j))/\Nq X w u1 P.n x)/\((∀ j,j<P.n->QB q (d j))/\Nq X w u3 P.n d)/\u2 = .slice none 0 0):=by
 rcases h with⟨val,x,y,vp,vd,e,h2,h3,h4,h5,h6,h7⟩|⟨y,vd,e,h2,h3,h4⟩|⟨x,d,vp,vd,e,h2,h3,h4,h5,h6⟩ <;> simp only[Value.agg.injEq,Array.mk.injEq,List.cons.injEq,Value.int.injEq,Value.string.injEq,true_and,and_true] at e <;> obtain⟨rfl,rfl,rfl,rfl,rfl⟩:=e
 ·exact Or.inl ⟨rfl,val,x,y,rfl,h2,h3,⟨h4,h6⟩,⟨h5,h7⟩,rfl⟩
 ·exact Or.inr (Or.inl ⟨rfl,rfl,y,h2,⟨h3,h4⟩,rfl,rfl⟩)
 ·exact Or.inr (Or.inr ⟨rfl,rfl,x,d,h2,⟨h3,h5⟩,⟨h4,h6⟩,rfl⟩)
theorem cx.GL{vl:ByteArray}{u1 u2 u3:Value}(h:cx P q X w (.agg #[.int .i64 1,.string vl,u1,u2,u3])):∃ val x y,vl=qs val/\ey P val x y/\QB q val/\((∀ j,j<P.n->QB q (x j))/\Nq X w u1 P.n x)/\((∀ i,i<P.m->QB q (y i))/\Nq X w u2 P.m y)/\u3 = .slice none 0 0:=by
 rcases h.kind with h|h|h
 ·exact h.2
 ·exact absurd h.1 af
 ·exact absurd h.1 af
theorem cx.Hw{vl:ByteArray}{u1 u2 u3:Value}(h:cx P q X w (.agg #[.int .i64 3,.string vl,u1,u2,u3])):vl=⟨#[]⟩/\∃ x d,dX P x d/\((∀ j,j<P.n->QB q (x j))/\Nq X w u1 P.n x)/\((∀ j,j<P.n->QB q (d j))/\Nq X w u3 P.n d)/\u2 = .slice none 0 0:=by
 rcases h.kind with h|h|h
 ·exact absurd h.1 af
 ·exact absurd h.1 af
 ·exact h.2
theorem Gg{n:Nat}{x:Nat->Rat}(h:∀ j,j<n->QB q (x j))(hq:q<=200):yI (fun j => .string (qs (x j))) n:=fun j hj=>⟨_,rfl,eA ((h j hj).mono hq),(h j hj).sz hq⟩
theorem Ew{g:Nat->Value}:yI g 0:=fun i hi=>absurd hi (Nat.not_lt_zero i)
theorem xF(g:Gd w)(h:cx P q X w v)(hq2:q<=200)(hn:P.n<=1000)(hm:P.m<=1000):Calls prog 49 #[v] w (aD w (.bool true)):=by
 have nl:∀ g,Rd w (.slice none 0 0) 0 g:=fun g=>Rd.nil w g
 rcases h with⟨val,x,y,vp,vd,rfl,h2,h3,h4,h5,h6,h7⟩|⟨y,vd,rfl,h2,h3,h4⟩|⟨x,d,vp,vd,rfl,h2,h3,h4,h5,h6⟩
 ·obtain⟨a,c,rfl⟩:=h6.iH;obtain⟨a',c',rfl⟩:=h7.iH;exact pX 1 (qs val) w g _ _ _ _ _ _ _ _ _ _ _ _ (h6.rd (jH hn)) (Gg h4 hq2) hn (h7.rd (jH hm)) (Gg h5 hq2) hm (nl fun _ => .int .i64 0) Ew (Nat.zero_le _) (fun _=>eA (h3.mono hq2)) (h3.sz hq2)
 ·obtain⟨a,c,rfl⟩:=h4.iH;exact pX 2 ⟨#[]⟩ w g _ _ _ _ _ _ _ _ _ _ _ _ (nl fun _ => .int .i64 0) Ew (Nat.zero_le _) (h4.rd (jH hm)) (Gg h3 hq2) hm (nl fun _ => .int .i64 0) Ew (Nat.zero_le _) (fun h=>absurd h af) af
 ·obtain⟨a,c,rfl⟩:=h5.iH;obtain⟨a',c',rfl⟩:=h6.iH;exact pX 3 ⟨#[]⟩ w g _ _ _ _ _ _ _ _ _ _ _ _ (h5.rd (jH hn)) (Gg h3 hq2) hn (nl fun _ => .int .i64 0) Ew (Nat.zero_le _) (h6.rd (jH hn)) (Gg h4 hq2) hn (fun h=>absurd h af) af
end
def D9(P:LP)(q:Nat)(w:World)(e:Ending)(w':World):Prop:=∃ v,e = .returned (.tuple #[v,.int .i64 0])/\Ext w w'/\cx P q w w' v
theorem EU(P:LP)(vr vc:Value)(va:Nat->Value)(q:Nat)(w:World)(g:Gd w)(hP:PM P w vr vc va)(SZ:D6 P q)(Q:PQ P)(hn:P.n<=60)(hm:P.m<=300)(hq1:1<=q)(hq2:q<=200)(qa:∀ i,i<P.m->∀ j,j<P.n->QB q (P.A i j)):Calls prog 15 #[.agg #[.int .i64 (P.n:Int),vr,vc]] w (D9 P q w):=by
 have HG:=ai g;have HPM:=ai hP;have HQA:=ai qa;have HQP:=ai Q;clear g hP qa Q;obtain⟨ro,rcap,er_,_⟩:=HPM.o.rows;obtain⟨co,ccap,ec_,_⟩:=HPM.o.obj;subst er_ ec_;go_enter func15,ntmps15;go_wp2_with fail;refine cto (tq P _ _ va _ (HG.o.ext ((((Ext.refl w).alloc _).alloc _))) (HPM.o.ext (((Ext.refl w).alloc _).alloc _)) HQP.o hn hm) fun w1 e1=>?_
 have HX1:Hid (Ext w w1):=ai ((((Ext.refl w).alloc _).alloc _).trans e1);have HB0_1:Hid (aq w1 (w.heap.size) (#[.int .i64 (P.n:Int),.slice ro P.m rcap,.slice co P.n ccap]) 32):=ai ((((aq.nw (#[.int .i64 (P.n:Int),.slice ro P.m rcap,.slice co P.n ccap]) 32).alloc _)).ext e1);have HB1_1:Hid (aq w1 (w.heap.size+1) (#[.int .i64 0,.string ⟨#[]⟩,.slice none 0 0,.slice none 0 0,.slice none 0 0]) 38):=ai (((aq.nw (#[.int .i64 0,.string ⟨#[]⟩,.slice none 0 0,.slice none 0 0,.slice none 0 0]) 38)).ext e1);have HGEB0:Hid (w.heap.size<=w.heap.size):=ai (Nat.le_refl _);have HGEB1:Hid (w.heap.size<=w.heap.size+1):=ai ae;clear e1;have c0_0:=HB0_1.o.cell 0 rfl;have c0_1:=HB0_1.o.cell 1 rfl;have c0_2:=HB0_1.o.cell 2 rfl;go_wp2_with fail;refine(B4 P _ _ va q _ (HG.o.ext (HX1.o)) (HPM.o.ext HX1.o) SZ (by have:=hn;show P.n<=1000;omega) (by have:=hm;show P.m<=1000;omega) hq1 ae HQA.o).mono ?_;rintro e w2 ⟨v_,rfl,e2,sv_⟩;have HX2:=ai (HX1.o.trans e2);have HB1_2:=ai (HB1_1.o.ext e2);clear e2 c0_0 c0_1 c0_2;obtain⟨kd1,vl1,a1_,m1_,c1_,d1_,n1_,f1_,g1_,h1_,k1_,rfl⟩:=sv_.shape;have HSV1_2:=ai sv_;clear sv_;go_upto_region 5 with fail
 refine aw (fun W=>Ext w W/\aq W (w.heap.size+1) (#[.int .i64 0,.string ⟨#[]⟩,.slice none 0 0,.slice none 0 0,.slice none 0 0]) 38/\cx P q w1 W (.agg #[.int .i64 kd1,.string vl1,.slice a1_ m1_ c1_,.slice d1_ n1_ f1_,.slice g1_ h1_ k1_])/\aq W (w2.heap.size) (#[.int .i64 kd1,.string vl1,.slice a1_ m1_ c1_,.slice d1_ n1_ f1_,.slice g1_ h1_ k1_]) 38) ⟨(HX2.o.alloc _),(HB1_2.o.alloc _),(HSV1_2.o.alloc _),(aq.nw (#[.int .i64 kd1,.string vl1,.slice a1_ m1_ c1_,.slice d1_ n1_ f1_,.slice g1_ h1_ k1_]) 38)⟩ ?_;rintro w3 ⟨e3,bB1_3,bSV1_3,bB2_3⟩;have HX3:=ai e3;have HB1_3:=ai bB1_3;have HSV1_3:=ai bSV1_3;have HB2_3:=ai bB2_3;have HGEB2:Hid (w.heap.size<=w2.heap.size):=ai (HX2.o.size);clear e3 bB1_3 bSV1_3 bB2_3;have c2_0:=HB2_3.o.cell 0 rfl;have c2_1:=HB2_3.o.cell 1 rfl;have c2_2:=HB2_3.o.cell 2 rfl;have c2_3:=HB2_3.o.cell 3 rfl;have c2_4:=HB2_3.o.cell 4 rfl;go_wp2_with fail;refine cto (xF (HG.o.ext (HX3.o)) (HSV1_3.o) hq2 (by show P.n<=1000;omega) (by show P.m<=1000;omega)) fun w4 e4=>?_
 have HX4:=ai (HX3.o.trans e4);have HB1_4:=ai (HB1_3.o.ext e4);have HSV1_4:=ai (HSV1_3.o.ext e4);have HB2_4:=ai (HB2_3.o.ext e4);clear e4 c2_0 c2_1 c2_2 c2_3 c2_4;have c2_0:=HB2_4.o.cell 0 rfl;have c2_1:=HB2_4.o.cell 1 rfl;have c2_2:=HB2_4.o.cell 2 rfl;have c2_3:=HB2_4.o.cell 3 rfl;have c2_4:=HB2_4.o.cell 4 rfl;have c1_0:=HB1_4.o.cell 0 rfl;have f1_0:=HB1_4.o.free 0;have c1_1:=HB1_4.o.cell 1 rfl;have f1_1:=HB1_4.o.free 1;have c1_2:=HB1_4.o.cell 2 rfl;have f1_2:=HB1_4.o.free 2;have c1_3:=HB1_4.o.cell 3 rfl;have f1_3:=HB1_4.o.free 3;have c1_4:=HB1_4.o.cell 4 rfl;have f1_4:=HB1_4.o.free 4;go_wp2_with fail;refine aw (fun W=>Ext w W/\aq W (w.heap.size+1) (#[.int .i64 kd1,.string vl1,.slice a1_ m1_ c1_,.slice d1_ n1_ f1_,.slice g1_ h1_ k1_]) 38/\cx P q w1 W (.agg #[.int .i64 kd1,.string vl1,.slice a1_ m1_ c1_,.slice d1_ n1_ f1_,.slice g1_ h1_ k1_])) ⟨(((((HX4.o.setCell (HGEB1.o) _).setCell (HGEB1.o) _).setCell (HGEB1.o) _).setCell (HGEB1.o) _).setCell (HGEB1.o) _),(((((HB1_4.o.set 0 (.int .i64 kd1)).set 1 (.string vl1)).set 2 (.slice a1_ m1_ c1_)).set 3 (.slice d1_ n1_ f1_)).set 4 (.slice g1_ h1_ k1_)),(((((HSV1_4.o.other (a:=⟨w.heap.size+1,0,none⟩) _ ((sV HB1_1.o.lt))).other (a:=⟨w.heap.size+1,1,none⟩) _ ((sV HB1_1.o.lt))).other (a:=⟨w.heap.size+1,2,none⟩) _ ((sV HB1_1.o.lt))).other (a:=⟨w.heap.size+1,3,none⟩) _ ((sV HB1_1.o.lt))).other (a:=⟨w.heap.size+1,4,none⟩) _ ((sV HB1_1.o.lt)))⟩ ?_;rintro w5 ⟨e5,bB1_5,bSV1_5⟩;have HX5:=ai e5;have HB1_5:=ai bB1_5;have HSV1_5:=ai bSV1_5;clear e5 bB1_5 bSV1_5 c2_0 c2_1 c2_2 c2_3 c2_4 c1_0 f1_0 c1_1 f1_1 c1_2 f1_2 c1_3 f1_3 c1_4 f1_4;have gB1_0:=HB1_5.o.cell 0 rfl;have gB1_1:=HB1_5.o.cell 1 rfl;have gB1_2:=HB1_5.o.cell 2 rfl;have gB1_3:=HB1_5.o.cell 3 rfl;have gB1_4:=HB1_5.o.cell 4 rfl;refine bodyPost_ret (v:=.tuple #[.agg #[.int .i64 kd1,.string vl1,.slice a1_ m1_ c1_,.slice d1_ n1_ f1_,.slice g1_ h1_ k1_],.int .i64 0]) (by simp[results,results15,go_sem,gB1_0,gB1_1,gB1_2,gB1_3,gB1_4]) rfl ⟨_,rfl,HX5.o,HSV1_5.o.mono HX1.o⟩
def GW(P:LP)(v:Rat):Prop:=∃ x y,ey P v x y
def Bx(P:LP):Prop:=∃ x d,dX P x d
section
variable {P:LP} {q:Nat} {X w:World} {vl:ByteArray} {u1 u2 u3:Value}
theorem cx.wZ(h:cx P q X w (.agg #[.int .i64 3,.string vl,u1,u2,u3])):Bx P:=by
 obtain⟨_,x,d,hd,_⟩:=h.Hw;exact⟨x,d,hd⟩
end
abbrev LP.unit(P:LP)(k:Nat)(s:Rat):LP:={ P with C:=fun j=>if j=k then s else 0 }
def D7(P:LP)(k q:Nat)(w:World)(e:Ending)(w':World):Prop:=Ext w w' /\
 ((e = .returned (.tuple #[.string ⟨#[]⟩,.string ⟨#[]⟩,.int .i64 22])/\∃ y,dC P y) ∨
  ∃ lo hi,e = .returned (.tuple #[.string lo,.string hi,.int .i64 0]) /\
   ((∃ z,GW (P.unit k 1) z/\QB q z/\lo=qs z)∨(Bx (P.unit k 1)/\lo=⟨#[]⟩)) /\
   ((∃ z,GW (P.unit k (-1)) z/\QB q z/\hi=qs (-z))∨(Bx (P.unit k (-1))/\hi=⟨#[]⟩)))
def tF(is:Nat->Bool)(k:Nat):List Nat:=(List.range k).filter is
theorem qT{is:Nat->Bool}{k:Nat}(h:is k=true):tF is (k+1)=tF is k ++ [k]:=by simp[tF,List.range_succ,h]
theorem AZ{is:Nat->Bool}{k:Nat}(h:is k=false):tF is (k+1)=tF is k:=by simp[tF,List.range_succ,h]
def qU(is:Nat->Bool)(k:Nat)(j:Nat):Value:=.int .i64 (((tF is k)[j]?.getD 0:Nat):Int)
abbrev FL(X w:World)(is:Nat->Bool)(k:Nat)(v:Value):Prop:=bB X w 3 1 v (tF is k).length (qU is k)
section
variable {X w w':World} {is:Nat->Bool} {k:Nat} {v:Value}
theorem FL.nil(X w:World)(is:Nat->Bool):FL X w is 0 (.slice none 0 0):=bB.nil _ _ _ _ _
theorem FL.skip(h:FL X w is k v)(hk:is k=false):FL X w is (k+1) v:=by
 have e:qU is (k+1)=qU is k:=by funext j;rw[qU,qU,AZ hk]
 rw[FL,AZ hk,e];exact h
theorem FL.push{v':Value}(h:App X w 3 1 v (tF is k).length 1 (qU is k) (fun _ => .int .i64 (k:Int)) v' w')(hk:is k=true):FL X w' is (k+1) v':=by
 have e:(tF is (k+1)).length=(tF is k).length+1:=by rw[qT hk];simp
 rw[FL,e];refine h.own.congr fun i hi=>?_
 rw[Nat.mul_one] at hi;by_cases h1:i<(tF is k).length
 ·rw[fm ae,qU,qU,qT hk,List.getElem?_append_left h1]
 ·have:i=(tF is k).length:=ae;rw[dO ae,qU,qT hk,this];simp
theorem bB.alloc{t:TypeId}{sz n:Nat}{G:Nat->Value}(h:bB X w t sz v n G)(o:Obj):bB X (w.alloc o) t sz v n G:=h.ext ((Ext.refl _).alloc o)
theorem bB.drew{t:TypeId}{sz n:Nat}{G:Nat->Value}(h:bB X w t sz v n G):bB X w.drew t sz v n G:=h.ext (Ext.refl _).drew
theorem bB.ne{t:TypeId}{sz n:Nat}{G:Nat->Value}(h:bB X w t sz v n G){b:Nat}(hb:w.heap.size<=b):∀ k,ep v k->k≠b:=fun k hk e=>by have:=(h.lt hk).2;omega
end
def Ia(P:LP)(x:Nat->Rat)(k:Nat):Bool:=decide (P.B k<aH P.n (fun j=>P.A k j*x j))
theorem zi(x:Rat):decide (x.num<0)=decide (x<0):=decide_eq_decide.2 ⟨fun h=>(Rat.lt_iff x 0).2 (by simpa using h),fun h=>by have:=(Rat.lt_iff x 0).1 h;simpa using this⟩
theorem Ej(x:Rat)(w:World):Calls prog 213 #[.string (qs x)] w (aD w (.bool (decide (x<0)))):=by
 go_enter func213,ntmps213;go_wp2_with fail;refine(aU x _).mono ?_;rintro e _ ⟨rfl,rfl⟩;go_wp2;go_ret;exact⟨by rw[← zi];rfl,(Ext.refl w)⟩
theorem qC{w:World}{v:Value}{m:Nat}{y:Nat->Rat}(h:Rq w v m y)(hm:m<=1000000):Calls prog 112 #[v,.func (.func 213) #[] #[]] w (aD w (.bool (iS (fun i=>decide (y i<0)) m))):=by
 obtain⟨ao,cap,rfl,_,_,hc⟩:=h;exact Bj ao m cap 213 #[] (fun i => .string (qs (y i))) (fun i=>decide (y i<0)) w hc (fun W _ k _=>Ej (y k) W) hm (fun _ _=>ag)
def lp(P:LP)(y:Nat->Rat)(k j:Nat):Rat:=aH k (fun i=>y i*P.A i j)
theorem rO{P:LP}{y:Nat->Rat}{j:Nat}:lp P y 0 j=0:=rfl
theorem pY{P:LP}{y:Nat->Rat}{j:Nat}:lp P y P.m j=P.comb y j:=rfl
theorem vW {P:LP} {y:Nat->Rat} {k j n:Nat} {C:Array Value} (h:∀ i,i<n->C[i]?=some (.string (qs (if i<j then lp P y (k+1) i else lp P y k i)))) :
    ∀ i,i<n->(C.setIfInBounds j (.string (qs (lp P y k j+y k*P.A k j))))[i]?=some (.string (qs (if i<j+1 then lp P y (k+1) i else lp P y k i))) :=
 fU h (fun _=>by rw[if_pos ae];rfl) (fun i _ hne=>by
  by_cases h1:i<j
  ·rw[if_pos h1,if_pos ae]
  ·rw[if_neg h1,if_neg ae])
theorem qp{w:World}{v:Value}{n:Nat}{a:Nat->Rat}(h:Rq w v n a)(g:Gd w)(hq:∀ i,i<n->QB 200 (a i))(hn:n<=1000000):Calls prog 120 #[v,.int .i64 (n:Int)] w (aD w (.int .i64 0)):=by
 have:=qq (k:=n) (t:=fun i=>qs (a i)) g h (fun i hi=>(hq i hi).sz (Nat.le_refl _)) hn;rwa[fW,if_neg (fun h=>h rfl),if_neg (by rw[Bool.not_eq_true,any_false];intro i hi;simp[eA (hq i hi)])] at this
def GS(P:LP)(y:Nat->Rat)(w:World)(e:Ending)(w':World):Prop:=∃ vf,e = .returned (.tuple #[vf,.string (qs (P.oh y)),.int .i64 0])/\Ext w w'/\Nq w w' vf P.n (P.comb y)
theorem G0(P:LP)(vr vc:Value)(va:Nat->Value)(q:Nat)(w:World)(g:Gd w)(hP:PM P w vr vc va)(vy:Value)(y:Nat->Rat)(r:Nat)(hy:Rq w vy P.m y)(hr:∀ i,i<P.m->QB r (y i))(hr2:r<=200)(hsz:P.m*(r+q+1)<=198)(qb:∀ i,i<P.m->QB q (P.B i))(hnn:iS (fun i=>decide (y i<0)) P.m=false)(Q:PQ P)(hn:P.n<=60)(hm:P.m<=300)(hq1:1<=q)(hq2:q<=200)(qa:∀ i,i<P.m->∀ j,j<P.n->QB q (P.A i j)):Calls prog 140 #[.agg #[.int .i64 (P.n:Int),vr,vc],.agg #[vy]] w (GS P y w):=by
 have HPM:=ai hP;have HNN:=ai hnn;have HYR:=ai hy;have HYQ:=ai hr;have HQB:=ai qb;have HG:=ai g;have HQA:=ai qa;have HQP:=ai Q;clear hP hnn hy hr qb g qa Q;have hm6:P.m<=1000000:=ae;have HSB:Hid (∀ k,k<=P.m->QB 199 (aH k (fun i=>y i*P.B i))):=ai (fun k hk=>(mN HYQ.o HQB.o k hk).mono (Ba hk hsz));have HSA:Hid (∀ k,k<=P.m->∀ j,j<P.n->QB 199 (lp P y k j)):=ai (fun k hk j hj=>(mN HYQ.o (fun i hi=>HQA.o i hi j hj) k hk).mono (Ba hk hsz));have HPO:=ai HPM.o.obj;have HPF:=ai HPM.o.kl;obtain⟨co,ccap,ec_,_⟩:=HPM.o.obj;obtain⟨ro,rcap,er_,_,_,hrr⟩:=HPM.o.rows;subst er_ ec_;have HRR:=ai hrr;clear hrr;have HY0:=ai HYR.o;obtain⟨yo,ycap,ey_,_,_,hyy⟩:=HYR.o;subst ey_;have HYY:=ai hyy;clear hyy;go_enter func140,ntmps140;go_wp2_with fail;refine cto (qp (HY0.o.ext (((Ext.refl w).alloc _).alloc _)) (HG.o.ext ((((Ext.refl w).alloc _).alloc _))) (fun j hj=>(HYQ.o j hj).mono hr2) hm6) fun w1 e1=>?_
 have HX1:Hid (Ext w w1):=ai ((((Ext.refl w).alloc _).alloc _).trans e1);have HB0_1:Hid (aq w1 (w.heap.size) (#[.int .i64 (P.n:Int),.slice ro P.m rcap,.slice co P.n ccap]) 32):=ai ((((aq.nw (#[.int .i64 (P.n:Int),.slice ro P.m rcap,.slice co P.n ccap]) 32).alloc _)).ext e1);have HB1_1:Hid (aq w1 (w.heap.size+1) (#[.slice yo P.m ycap]) 36):=ai (((aq.nw (#[.slice yo P.m ycap]) 36)).ext e1);have HGEB0:Hid (w.heap.size<=w.heap.size):=ai (Nat.le_refl _);have HGEB1:Hid (w.heap.size<=w.heap.size+1):=ai ae;clear e1;have c1_0:=HB1_1.o.cell 0 rfl;go_wp2_with fail;refine((HNN.o▸qC (HY0.o.ext HX1.o) hm6)).mono ?_;rintro e w2 ⟨rfl,e2⟩;have HX2:=ai (HX1.o.trans e2);have HB0_2:=ai (HB0_1.o.ext e2);have HB1_2:=ai (HB1_1.o.ext e2);clear e2 c1_0;have c0_0:=HB0_2.o.cell 0 rfl;go_wp2_with fail;refine(gL P.n ae _).mono ?_;rintro e w3 ⟨kz1,CZ1,rfl,e3,g_,b_,c_⟩;have HNB0Bz1:Hid (w.heap.size≠kz1):=ai (Nat.ne_of_lt (Nat.lt_of_lt_of_le HB0_2.o.lt g_));have HNB1Bz1:Hid (w.heap.size+1≠kz1):=ai (Nat.ne_of_lt (Nat.lt_of_lt_of_le HB1_2.o.lt g_));have HGEBz1:Hid (w.heap.size<=kz1):=ai (Nat.le_trans HX2.o.size g_);have HX3:=ai (HX2.o.trans e3);have HB0_3:=ai (HB0_2.o.ext e3);have HB1_3:=ai (HB1_2.o.ext e3);clear e3 c0_0;have HBz1_3:=ai b_;have HCBz1:=ai c_;clear g_ b_ c_;have c1_0:=HB1_3.o.cell 0 rfl;go_wp2_with fail;clear c1_0;go_loopw [30,5] (fun x0_ x1_ wx=>∃ k:Nat,x0_ = .int .i64 k/\x1_ = .string (qs (aH k (fun i=>y i*P.B i)))/\k<=P.m/\Hid (Ext w wx/\aq wx (w.heap.size) (#[.int .i64 (P.n:Int),.slice ro P.m rcap,.slice co P.n ccap]) 32/\aq wx (w.heap.size+1) (#[.slice yo P.m ycap]) 36/\(∃ CK,aq wx kz1 CK 34/\∀ j,j<P.n->CK[j]?=some (.string (qs (lp P y k j)))))) (fun x0_ _ _=>P.m-(intOf x0_).toNat)
 case atStart=>exact⟨0,rfl,by simp only[aH];rw[bE],Nat.zero_le _,ai ⟨HX3.o,HB0_3.o,HB1_3.o,⟨_,HBz1_3.o,fun j hj=>by rw[rO,bE];exact HCBz1.o j hj⟩⟩⟩
 case round =>
  rename World=>w4
  obtain⟨k,rfl,rfl,hkk,HH⟩:=hrel;have HX4:=ai HH.o.1;have HB0_4:=ai HH.o.2.1;have HB1_4:=ai HH.o.2.2.1;obtain⟨CK,a1_,a2_⟩:=HH.o.2.2.2;have HBz1_4:=ai a1_;have HCK:=ai a2_;clear a1_ a2_;clear HH;by_cases hlt:k<P.m
  ·have hlt2:(k:Int)<((P.m:Nat):Int):=ae;have hltk:k<P.m:=hlt;obtain⟨ra,o_,rfl,zr_,zs_⟩:=HRR.o k hlt;obtain⟨fo,fcap,ef_,_,_,hff_⟩:=HPF.o k hlt;rw[ef_] at zr_;have HFF:=ai hff_;obtain⟨ya,rfl,zy_⟩:=HYY.o k hlt;have HCr:=ai zr_;have HCs:=ai zs_;have HCy:=ai zy_;clear zr_ zs_ ef_ hff_ zy_;have cy_k:=ax HX4.o (HCy.o);have c0_1:=HB0_4.o.cell 1 rfl;have cr_o____k___2___1:=ax HX4.o (HCs.o);go_wp2_with fail;refine cto (bD (y k) (P.B k) _ (HG.o.ext (HX4.o)) (HYQ.o k hltk) (HQB.o k hlt) ae ae) fun w5 e5=>?_
   have HX5:=ai (HX4.o.trans e5);have HB0_5:=ai (HB0_4.o.ext e5);have HB1_5:=ai (HB1_4.o.ext e5);have HBz1_5:=ai (HBz1_4.o.ext e5);clear e5 cy_k c0_1 cr_o____k___2___1;go_wp2_with fail;refine cto (cX (aH k (fun i=>y i*P.B i)) (y k*P.B k) _ (HG.o.ext (HX5.o)) (HSB.o k ae) ((HYQ.o k hltk).mul (HQB.o k hlt)) ae ae) fun w6 e6=>?_
   have HX6:=ai (HX5.o.trans e6);have HB0_6:=ai (HB0_5.o.ext e6);have HB1_6:=ai (HB1_5.o.ext e6);have HBz1_6:=ai (HBz1_5.o.ext e6);clear e6;have c0_1:=HB0_6.o.cell 1 rfl;have cr_o____k___2:=ax HX6.o (HCr.o);go_wp2_with fail;clear c0_1 cr_o____k___2;go_loopw [52] (fun x0_ wx=>∃ j:Nat,x0_ = .int .i64 j/\j<=P.n/\Hid (Ext w wx/\aq wx (w.heap.size) (#[.int .i64 (P.n:Int),.slice (some ⟨ra,o_,none⟩) P.m rcap,.slice co P.n ccap]) 32/\aq wx (w.heap.size+1) (#[.slice (some ya) P.m ycap]) 36/\(∃ CJ,aq wx kz1 CJ 34/\∀ i,i<P.n->CJ[i]?=some (.string (qs (if i<j then lp P y (k+1) i else lp P y k i)))))) (fun x0_ _=>P.n-(intOf x0_).toNat)
   case atStart=>exact⟨0,rfl,Nat.zero_le _,ai ⟨HX6.o,HB0_6.o,HB1_6.o,⟨_,HBz1_6.o,fun i hi=>by rw[if_neg (Nat.not_lt_zero i)];exact HCK.o i hi⟩⟩⟩
   case round =>
    rename World=>w7
    obtain⟨j,rfl,hkj,HH⟩:=hrel;have HX7:=ai HH.o.1;have HB0_7:=ai HH.o.2.1;have HB1_7:=ai HH.o.2.2.1;obtain⟨CJ,a1_,a2_⟩:=HH.o.2.2.2;have HBz1_7:=ai a1_;have HCJ:=ai a2_;clear a1_ a2_;clear HH;by_cases hlt:j<P.n
    ·have hlt2:(j:Int)<((P.n:Nat):Int):=ae;obtain⟨fa,rfl,zf_⟩:=HFF.o j hlt;have HCf:=ai zf_;have zj_:=HCJ.o j hlt;rw[if_neg ae] at zj_;have HCj:=ai zj_;clear zf_ zj_;have cf_j:=ax HX7.o (HCf.o);go_wp2_with fail;clear cf_j;refine ay [.val (.slice (some ⟨kz1,0,none⟩) P.n P.n),.val (.int .i64 (j:Int)),.val (.slice (some ⟨kz1,0,none⟩) P.n P.n),.val (.int .i64 (j:Int)),.val (.pointer (some ⟨kz1,j,none⟩)),.val (.string (qs (lp P y k j))),.val (.string (qs (y k))),.val (.string (qs (P.A k j))),.val (.string (qs (y k*P.A k j))),.val (.string (qs (lp P y k j+y k*P.A k j))),.val (.pointer (some ⟨kz1,j,none⟩)),.aR] (fun L g W=>(if L 11=true then aq W (kz1) ((CJ).setIfInBounds j (.string (qs (lp P y k j+y k*P.A k j)))) 34 else aq W (kz1) (CJ) 34)) (S:=fun k=>k=kz1) ag ag ag (Mv.refl HX7.o (fun k h=>(fun e=>Nat.le_trans (show w.heap.size<=kz1 from HGEBz1.o) (Nat.le_of_eq e.symm)) h)) ?_ ?_ ?_ ?_ (fun gv_ w8 hm_ he_=>?_)
     ·exact fun gz_=>(by rw[if_neg af];exact HBz1_7.o.drew)
     ·exact fun L g W W1 h e=>aZ (h) (fun h=>h.ext e) (fun h=>h.ext e)
     ·intro i v L g W hi h;have n11_:i≠11:=fun e=>by subst e;exact absurd (show false=true from hi) af
      simp only[au n11_,av n11_];exact h
     ·skip
      refine RI 4 (.slice (some ⟨kz1,0,none⟩) P.n P.n)<|RI 10 (.int .i64 (j:Int))<|RI 4 (.slice (some ⟨kz1,0,none⟩) P.n P.n)<|RI 10 (.int .i64 (j:Int))<|R2 2 3 ?_;refine RV (fun A_ hs_ K_ hK_=>?_) ?_;· have q61_:=hs_.val 4;have n11_:=hs_.no 11 af ag;have e11_:=hs_.e;rw[if_neg (by rw[n11_];decide)] at e11_;have cz1_j:=e11_.cell (j) HCj.o;clear e11_ n11_;go_simp;exact bY hK_
      refine RI 9 (.string (qs (y k)))<|RI 11 (.string (qs (P.A k j)))<|K2 (fun hs_=>hs_.val 6) (fun hs_=>hs_.val 7) (fun hs_=>bD (y k) (P.A k j) _ (HG.o.ext hs_.mv.ext) (HYQ.o k hltk) (HQA.o k hltk j hlt) ae ae)<|K2 (fun hs_=>hs_.val 5) (fun hs_=>hs_.val 8) (fun hs_=>cX (lp P y k j) (y k*P.A k j) _ (HG.o.ext hs_.mv.ext) (HSA.o k ae j hlt) ((HYQ.o k hltk).mul (HQA.o k hltk j hlt)) ae ae)<|R2 0 1 ?_;refine aA.cons (fun L_ g_ A_ W_ hs_=>?_) ?_
      ·have q67_:=hs_.val 10;have q66_:=hs_.val 9;refine cI.aR fun K_ hK_=>?_;have n_:=hs_.not;have e_:=hs_.e;rw[if_neg (by rw[n_];decide)] at e_;have c_0:=e_.cell (j) HCj.o;have f_0:=e_.free j;have HE_:=ai e_;have HM_:=ai hs_.mv;have HEE_:=ai hs_.e;clear e_ n_;go_simp;exact hK_.o undef _ (HM_.o.setCell (Or.inl (rfl)) _) (by rw[aM,if_pos rfl];exact(HE_.o.set j _))
      exact aA.nil
     simp only[dD,Ke.value,aX,Act.put,List.setIfInBounds_toArray,List.set_cons_zero,List.set_cons_succ];have HX8:Hid (Ext w w8):=ai hm_.ext;have HB0_8:=ai (hm_.az HB0_7.o (fun h=>((show w.heap.size≠kz1 from HNB0Bz1.o)) h));have HB1_8:=ai (hm_.az HB1_7.o (fun h=>((show w.heap.size+1≠kz1 from HNB1Bz1.o)) h));have HBz1_8:Hid (aq w8 (kz1) ((CJ).setIfInBounds j (.string (qs (lp P y k j+y k*P.A k j)))) 34):=ai (by have h_:=he_;rw[if_pos rfl] at h_;exact h_);clear hm_ he_;go_wp2_with fail;go_roundw
     case rel=>exact⟨j+1,by go_num,ae,ai ⟨HX8.o,HB0_8.o,HB1_8.o,⟨_,HBz1_8.o,vW HCJ.o⟩⟩⟩
     case measure=>simp[intOf];omega
    ·have hk2:j=P.n:=ae;have hge:¬ (j:Int)<((P.n:Nat):Int):=ae;go_wp2_with fail;go_roundw
     case rel=>exact⟨k+1,by go_num,rfl,ae,ai ⟨HX7.o,HB0_7.o,HB1_7.o,⟨_,HBz1_7.o,fun i hi=>by rw[HCJ.o i hi,if_pos ae]⟩⟩⟩
     case measure=>simp[intOf];omega
  ·have hk2:k=P.m:=ae;have hge:¬ (k:Int)<((P.m:Nat):Int):=ae;go_wp2;go_ret3;exact⟨_,rfl,HX4.o,_,_,rfl,HGEBz1.o,HBz1_4.o,fun j hj=>by rw[HCK.o j hj,hk2,pY]⟩
theorem B3(P:LP)(vr vc:Value)(va:Nat->Value)(q:Nat)(w:World)(g:Gd w)(hP:PM P w vr vc va)(vy:Value)(m:Nat)(t:Nat->ByteArray)(hT:Rs w vy m t)(hts:∀ i,i<m->(t i).size<=1000000)(hm6:m<=1000000)(hle:fW t m P.m≠0)(Q:PQ P)(hn:P.n<=60)(hm:P.m<=300)(hq1:1<=q)(hq2:q<=200)(qa:∀ i,i<P.m->∀ j,j<P.n->QB q (P.A i j)):Calls prog 140 #[.agg #[.int .i64 (P.n:Int),vr,vc],.agg #[vy]] w (aD w (.tuple #[.slice none 0 0,.string ⟨#[]⟩,.int .i64 (fW t m P.m)])):=by
 have HPM:=ai hP;have HT:=ai hT;have HTS:=ai hts;have HG:=ai g;have HQA:=ai qa;have HQP:=ai Q;clear hP hT hts g qa Q;have HPO:=ai HPM.o.obj;have HPF:=ai HPM.o.kl;obtain⟨co,ccap,ec_,_⟩:=HPM.o.obj;obtain⟨ro,rcap,er_,_,_,hrr⟩:=HPM.o.rows;subst er_ ec_;have HRR:=ai hrr;clear hrr;obtain⟨yo,ycap,ey_,_,_,hyy⟩:=HT.o;subst ey_;clear hyy;go_enter func140,ntmps140;have hz2:¬ fW t m P.m=0:=hle;go_wp2_with fail;refine cto (qq (HG.o.ext ((((Ext.refl w).alloc _).alloc _))) (HT.o.ext (((Ext.refl w).alloc _).alloc _)) HTS.o hm6) fun w1 e1=>?_
 have HX1:Hid (Ext w w1):=ai ((((Ext.refl w).alloc _).alloc _).trans e1);clear e1;go_wp2;go_ret3;exact⟨rfl,HX1.o⟩
theorem BZ(P:LP)(vr vc:Value)(va:Nat->Value)(q:Nat)(w:World)(g:Gd w)(hP:PM P w vr vc va)(vy:Value)(y:Nat->Rat)(r:Nat)(hy:Rq w vy P.m y)(hr:∀ i,i<P.m->QB r (y i))(hr2:r<=200)(hnn:iS (fun i=>decide (y i<0)) P.m=true)(Q:PQ P)(hn:P.n<=60)(hm:P.m<=300)(hq1:1<=q)(hq2:q<=200)(qa:∀ i,i<P.m->∀ j,j<P.n->QB q (P.A i j)):Calls prog 140 #[.agg #[.int .i64 (P.n:Int),vr,vc],.agg #[vy]] w (aD w (.tuple #[.slice none 0 0,.string ⟨#[]⟩,.int .i64 3])):=by
 have HPM:=ai hP;have HNN:=ai hnn;have HYR:=ai hy;have HYQ:=ai hr;have HG:=ai g;have HQA:=ai qa;have HQP:=ai Q;clear hP hnn hy hr g qa Q;have hm6:P.m<=1000000:=ae;have HPO:=ai HPM.o.obj;have HPF:=ai HPM.o.kl;obtain⟨co,ccap,ec_,_⟩:=HPM.o.obj;obtain⟨ro,rcap,er_,_,_,hrr⟩:=HPM.o.rows;subst er_ ec_;have HRR:=ai hrr;clear hrr;have HY0:=ai HYR.o;obtain⟨yo,ycap,ey_,_,_,hyy⟩:=HYR.o;subst ey_;have HYY:=ai hyy;clear hyy;go_enter func140,ntmps140;go_wp2_with fail;refine cto (qp (HY0.o.ext (((Ext.refl w).alloc _).alloc _)) (HG.o.ext ((((Ext.refl w).alloc _).alloc _))) (fun j hj=>(HYQ.o j hj).mono hr2) hm6) fun w1 e1=>?_
 have HX1:Hid (Ext w w1):=ai ((((Ext.refl w).alloc _).alloc _).trans e1);have HB1_1:Hid (aq w1 (w.heap.size+1) (#[.slice yo P.m ycap]) 36):=ai (((aq.nw (#[.slice yo P.m ycap]) 36)).ext e1);have HGEB1:Hid (w.heap.size<=w.heap.size+1):=ai ae;clear e1;have c1_0:=HB1_1.o.cell 0 rfl;go_wp2_with fail;refine((HNN.o▸qC (HY0.o.ext HX1.o) hm6)).mono ?_;rintro e w2 ⟨rfl,e2⟩;have HX2:=ai (HX1.o.trans e2);clear e2 c1_0;go_wp2;go_ret3;exact⟨rfl,HX2.o⟩
noncomputable def qv (t:ByteArray):Rat:=open Classical in if h:∃ x,t=qs x then h.choose else 0
theorem wg(x:Rat):qv (qs x)=x:=by
 have h:∃ z,qs x=qs z:=⟨x,rfl⟩
 rw[qv,dif_pos h];exact(uo.1 h.choose_spec).symm
noncomputable abbrev yq (t:Nat->ByteArray) (i:Nat):Rat:=qv (t i)
noncomputable def jC (t:Nat->ByteArray) (m k:Nat):Int:=if fW t m k≠0 then fW t m k else if iS (fun i=>decide (yq t i<0)) m=true then 3 else 0
def yN(t:Nat->ByteArray)(m r:Nat):Prop:=∀ i,i<m->rq (t i)=true->∃ x,t i=qs x/\QB r x
theorem CT{t:Nat->ByteArray}{m k r:Nat}(h:fW t m k=0)(hq:yN t m r):m=k/\∀ i,i<m->t i=qs (yq t i)/\QB r (yq t i):=by
 rw[fW] at h;split at h
 ·cases h
 ·rename_i h1;split at h
  ·cases h
  ·rename_i h2;refine⟨Classical.not_not.1 h1,fun i hi=>?_⟩;rw[Bool.not_eq_true,any_false] at h2;obtain⟨x,hx,hb⟩:=hq i hi (by have:=h2 i hi;simpa using this);rw[yq,hx,wg];exact⟨rfl,hb⟩
def GR(P:LP)(t:Nat->ByteArray)(m:Nat)(w:World)(e:Ending)(w':World):Prop:=Ext w w' /\
 ((e = .returned (.tuple #[.slice none 0 0,.string ⟨#[]⟩,.int .i64 (jC t m P.m)])/\jC t m P.m≠0) ∨
  (∃ vf,e = .returned (.tuple #[vf,.string (qs (P.oh (yq t))),.int .i64 0])/\jC t m P.m=0/\(∀ i,i<P.m->QB 200 (yq t i))/\Nq w w' vf P.n (P.comb (yq t))))
noncomputable def Ib (P:LP) (t:Nat->ByteArray) (m:Nat):Int:=open Classical in if jC t m P.m≠0 then jC t m P.m else if P.oh (yq t)<0/\(∀ j,j<P.n->P.comb (yq t) j=0) then 0 else 23
theorem Ep(x:Rat):(x.num.sign=-1/\x<0)∨(x.num.sign=0/\¬ x<0)∨(x.num.sign=1/\¬ x<0):=by
 by_cases h:x<0
 ·exact Or.inl ⟨gV h,h⟩
 ·by_cases h0:x=0
  ·exact Or.inr (Or.inl ⟨by rw[h0];rfl,h⟩)
  ·exact Or.inr (Or.inr ⟨gU (by grind),h⟩)
noncomputable def fV (P:LP) (t:Nat->ByteArray) (m:Nat):ByteArray × Int:=open Classical in if jC t m P.m≠0 then(⟨#[]⟩,jC t m P.m) else if (∀ j,j<P.n->P.comb (yq t) j=-P.C j) then(qs (-P.oh (yq t)),0) else(⟨#[]⟩,23)
theorem Df{P:LP}{y:Nat->Rat}{k:Nat}(hz:P.comb y k+P.C k=0)(h:∀ j,j<k->P.comb y j=-P.C j):∀ j,j<k+1->P.comb y j=-P.C j:=fun j hj=>by
 by_cases e:j=k
 ·rw[e];grind
 ·exact h j ae
def DW(kd:Int)(val:ByteArray)(np nd nr:Nat):Int:=if kd<1∨3<kd then 12 else if (kd≠1/\val≠⟨#[]⟩)∨(kd=2/\0<np)∨(kd=3/\0<nd)∨(kd≠3/\0<nr) then 7 else 0
noncomputable def kl (P:LP) (t:Nat->ByteArray) (m:Nat):Int:=open Classical in if fW t m P.n≠0 then fW t m P.n else if P.obj (yq t)<0/\(∀ k,k<P.m->(aH P.n (fun j=>P.A k j*yq t j))<=0) then 0 else 23
noncomputable def Ed (P:LP) (kd:Int) (val:ByteArray) (t1:Nat->ByteArray) (m1:Nat) (t2:Nat->ByteArray) (m2:Nat) (t3:Nat->ByteArray) (m3:Nat):Int :=
 if DW kd val m1 m2 m3≠0 then DW kd val m1 m2 m3 else if kd=2 then Ib P t2 m2 else if fW t1 m1 P.n≠0 then fW t1 m1 P.n else if 0<(tF (Ia P (yq t1)) P.m).length then 23 else if kd=3 then kl P t3 m3
 else if rq val=true then(if (fV P t2 m2).2≠0 then(fV P t2 m2).2 else if (fV P t2 m2).1≠val∨qs (P.obj (yq t1))≠val then 23 else 0) else 2
theorem fh{a b:ByteArray}(h:¬ a=b):(a.toList == b.toList)=false:=by
 rw[toList_data,toList_data];rcases a with⟨⟨m⟩⟩;rcases b with⟨⟨n⟩⟩;simpa using fun e=>h (by rw[e])
theorem fj{a b:ByteArray}(h:a=b):(a.toList == b.toList)=true:=by rw[h];exact beq_self_eq_true _
theorem bB.uG{X w:World}{t:TypeId}{sz n:Nat}{v:Value}{G:Nat->Value}(h:bB X w t sz v n G):∃ a c,v = .slice a n c:=by
 rcases h with⟨rfl,rfl⟩|⟨k,cap,C,rfl,_⟩
 ·exact⟨_,_,rfl⟩
 ·exact⟨_,_,rfl⟩
def ms(y:Nat->Rat)(k:Nat):Int:=if iS (fun i=>decide (y i<0)) k=true then 3 else 0
def l3(a b c:Int)(j:Nat):Rat:=if j=0 then mkRat a 1 else if j=1 then mkRat b 1 else mkRat c 1
theorem wv{X w w':World}{e:TypeId}{n:Nat}{v v':Value}{G:Nat->Value}{u:Value}(h:App X w e 1 v n 1 G (fun _=>u) v' w')(hu:u=G n):bB X w' e 1 v' (n+1) G :=
 h.own.congr fun i hi=>by
  by_cases h1:i<n*1
  ·rw[fm h1]
  ·rw[dO h1,hu,show i=n by omega]
theorem bB.empty{X w:World}{t:TypeId}{k:Nat}{G:Nat->Value}(hk:X.heap.size<=k)(h:aq w k #[] t):bB X w t 1 (.slice (some ⟨k,0,none⟩) 0 0) 0 G :=
 Or.inr ⟨k,0,#[],rfl,hk,h,Nat.le_refl _,by unfold maxLen;omega,rfl,fun i hi=>absurd hi ae⟩
section
variable {P:LP} {q:Nat}
theorem mg(x:Nat->Rat):yq (fun j=>qs (x j))=x:=by funext j;exact wg (x j)
theorem lW{x:Nat->Rat}{n:Nat}(h:∀ j,j<n->QB 200 (x j)):fW (fun j=>qs (x j)) n n=0:=by
 rw[fW,if_neg (fun h=>h rfl),if_neg];rw[Bool.not_eq_true,any_false];intro i hi;rw[eA (h i hi)];rfl
theorem qE{y:Nat->Rat}{m:Nat}(h:∀ i,i<m->QB 200 (y i))(hp:∀ i,i<m->0<=y i):jC (fun j=>qs (y j)) m m=0:=by
 rw[jC,if_neg (fun h'=>h' (lW h)),mg,if_neg];rw[Bool.not_eq_true,any_false];intro i hi;have:=hp i hi;exact decide_eq_false (by grind)
theorem wT{is:Nat->Bool}{n:Nat}(h:∀ i,i<n->is i=false):(tF is n).length=0:=by
 rw[List.length_eq_zero_iff,tF,List.filter_eq_nil_iff];intro i hi;rw[h i (List.mem_range.1 hi)];decide
theorem rB{x:Nat->Rat}(h:P.fX x):∀ i,i<P.m->Ia P x i=false:=fun i hi=>decide_eq_false (by have:=h i hi;grind)
theorem yW {v:Rat} {x y:Nat->Rat} {t3:Nat->ByteArray} (h:ey P v x y) (hx:∀ j,j<P.n->QB q (x j)) (hy:∀ i,i<P.m->QB q (y i)) (hv:QB q v) (hq:q<=200) :
    Ed P 1 (qs v) (fun j=>qs (x j)) P.n (fun i=>qs (y i)) P.m t3 0=0:=by
 have he:DW 1 (qs v) P.n P.m 0=0:=by
  rw[DW,if_neg af,if_neg];rintro(h|h|h|h)
  ·exact h.1 rfl
  ·exact absurd h.1 af
  ·exact absurd h.1 af
  ·exact absurd h.2 af
 have hb:fV P (fun i=>qs (y i)) P.m=(qs v,0):=by
  rw[fV,if_neg (fun h'=>h' (qE (fun i hi=>(hy i hi).mono hq) h.pos)),mg,if_pos h.comb,h.oh];rw[show - -v=v by grind]
 rw[Ed,if_neg (fun h'=>h' he),if_neg af,if_neg (fun h'=>h' (lW fun j hj=>(hx j hj).mono hq)),mg,wT (rB h.fX),if_neg af,if_neg af,if_pos (eA (hv.mono hq)),hb,if_neg (fun h'=>h' rfl),if_neg];rintro(h'|h')
 ·exact h' rfl
 ·exact h' (by rw[h.worth])
theorem BK{y:Nat->Rat}{t1 t3:Nat->ByteArray}(h:dC P y)(hy:∀ i,i<P.m->QB q (y i))(hq:q<=200):Ed P 2 ⟨#[]⟩ t1 0 (fun i=>qs (y i)) P.m t3 0=0:=by
 have he:DW 2 ⟨#[]⟩ 0 P.m 0=0:=by
  rw[DW,if_neg af,if_neg];rintro(h|h|h|h)
  ·exact h.2 rfl
  ·exact absurd h.2 af
  ·exact absurd h.1 af
  ·exact absurd h.2 af
 rw[Ed,if_neg (fun h'=>h' he),if_pos rfl,Ib,if_neg (fun h'=>h' (qE (fun i hi=>(hy i hi).mono hq) h.pos)),mg,if_pos ⟨h.neg,h.comb⟩]
theorem yV{x d:Nat->Rat}{t2:Nat->ByteArray}(h:dX P x d)(hx:∀ j,j<P.n->QB q (x j))(hd:∀ j,j<P.n->QB q (d j))(hq:q<=200):Ed P 3 ⟨#[]⟩ (fun j=>qs (x j)) P.n t2 0 (fun j=>qs (d j)) P.n=0:=by
 have he:DW 3 ⟨#[]⟩ P.n 0 P.n=0:=by
  rw[DW,if_neg af,if_neg];rintro(h|h|h|h)
  ·exact h.2 rfl
  ·exact absurd h.1 af
  ·exact absurd h.2 af
  ·exact h.1 rfl
 rw[Ed,if_neg (fun h'=>h' he),if_neg af,if_neg (fun h'=>h' (lW fun j hj=>(hx j hj).mono hq)),mg,wT (rB h.fX),if_neg af,if_pos rfl,kl,if_neg (fun h'=>h' (lW fun j hj=>(hd j hj).mono hq)),mg,if_pos ⟨h.worth,fun k hk=>h.row k hk⟩]
end
structure MR(w:World)(n k:Nat)(vr vo:Value)(RG C vf:Nat->Value)(F:Nat->Nat->Value)(W:World):Prop where
 rows:bB w W 97 2 vr k RG
 obj:bB w W 34 1 vo n C
 kl:∀ i,i<k->bB w W 34 1 (vf i) n (F i)
def MD(k:Nat)(vr vo:Value)(vf:Nat->Value)(q:Nat):Prop:=ep vr q∨ep vo q∨∃ i,i<k/\ep (vf i) q
section
variable {w W W':World} {n k:Nat} {vr vo:Value} {RG C vf:Nat->Value} {F:Nat->Nat->Value}
theorem MR.ext(h:MR w n k vr vo RG C vf F W)(e:Ext W W'):MR w n k vr vo RG C vf F W':=⟨h.rows.ext e,h.obj.ext e,fun i hi=>(h.kl i hi).ext e⟩
theorem MR.alloc(h:MR w n k vr vo RG C vf F W)(o:Obj):MR w n k vr vo RG C vf F (W.alloc o):=h.ext ((Ext.refl _).alloc o)
theorem MR.drew(h:MR w n k vr vo RG C vf F W):MR w n k vr vo RG C vf F W.drew:=h.ext (Ext.refl _).drew
theorem MR.mv{Y:World}{S:Nat->Prop}(h:MR w n k vr vo RG C vf F W)(m:Mv Y W S W')(hs:∀ q,MD k vr vo vf q->¬ S q):MR w n k vr vo RG C vf F W' :=
 ⟨h.rows.mv m (fun q a=>hs q (Or.inl a)),h.obj.mv m (fun q a=>hs q (Or.inr (Or.inl a))),fun i hi=>(h.kl i hi).mv m (fun q a=>hs q (Or.inr (Or.inr ⟨i,hi,a⟩)))⟩
theorem MR.other(h:MR w n k vr vo RG C vf F W){a:Addr}(u:Value)(hk:∀ q,MD k vr vo vf q->q≠a.block):MR w n k vr vo RG C vf F (W.setCell a u) :=
 ⟨h.rows.other u (fun v=>hk _ (Or.inl v) rfl),h.obj.other u (fun v=>hk _ (Or.inr (Or.inl v)) rfl),fun i hi=>(h.kl i hi).other u (fun v=>hk _ (Or.inr (Or.inr ⟨i,hi,v⟩)) rfl)⟩
theorem MR.lt(h:MR w n k vr vo RG C vf F W):∀ q,MD k vr vo vf q->w.heap.size<=q/\q<W.heap.size:=fun q d=>d.elim (fun a=>h.rows.lt a) (fun d=>d.elim (fun a=>h.obj.lt a) (fun⟨i,hi,a⟩=>(h.kl i hi).lt a))
theorem MR.ne(h:MR w n k vr vo RG C vf F W){b:Nat}(hb:W.heap.size<=b):∀ q,MD k vr vo vf q->q≠b:=fun q d e=>by have:=(h.lt q d).2;omega
theorem MR.D0(h:MR w n k vr vo RG C vf F W){b:Nat}{D:Array Value}{t:TypeId}(hB:aq W b D t)(h2:97≠t)(h3:34≠t):∀ q,MD k vr vo vf q->q≠b:=fun q d e=>by
 subst e;rcases d with d|d|⟨i,hi,d⟩
 ·exact h.rows.aI hB h2 d
 ·exact h.obj.aI hB h3 d
 ·exact(h.kl i hi).aI hB h3 d
theorem MR.push {x y vr' : Value} {vg : Nat -> Value} (h : MR w n k vr vo RG C vf F W) (hA : App w W 97 2 vr k 1 RG (fun i => if i = 0 then x else y) vr' W') (hx : bB w W 34 1 x n (F k)) (hg : vg k = x) (hg2 : ∀ i, i < k -> vg i = vf i) :
    MR w n (k+1) vr' vo (app (k*2) RG (fun i=>if i=0 then x else y)) C vg F W':=by
 refine⟨hA.own,h.obj.mv hA.mv (fun q hq hv=>(h.rows.apart h.obj af) q hv hq),fun i hi=>?_⟩;by_cases e:i=k
 ·rw[e,hg];exact hx.mv hA.mv (fun q hq hv=>(h.rows.apart hx af) q hv hq)
 ·rw[hg2 i ae];exact(h.kl i ae).mv hA.mv (fun q hq hv=>(h.rows.apart (h.kl i ae) af) q hv hq)
end
theorem vQ:prog.underlying 29=some (.slice 97):=ag
theorem AF:(prog.info? 97).map (fun i=>(i.zero,i.size,i.bytes))=some (some (.agg #[.slice none 0 0,.string ⟨#[]⟩]),2,40):=ag
theorem MR.pm{w W:World}{vr vo:Value}{RG vf:Nat->Value}{P:LP}(h:MR w P.n P.m vr vo RG (fun j => .string (qs (P.C j))) vf (fun i j => .string (qs (P.A i j))) W)(hg:∀ i,i<P.m->RG (i*2)=vf i/\RG (i*2+1) = .string (qs (P.B i))):PM P W vr vo vf:=by
 refine⟨?_,fun i hi=>(h.kl i hi).rd,h.obj.rd⟩;rcases h.rows with⟨e1,e2⟩|⟨b,cap,D,e1,e2,e3,e4,e5,e6,e7⟩
 ·exact⟨none,0,by rw[e1,e2],ae,by unfold maxLen;omega,fun i hi=>ae⟩
 ·refine⟨some ⟨b,0,none⟩,cap,e1,e4,e5,fun i hi=>⟨b,0,rfl,?_,?_⟩⟩
  ·rw[Nat.zero_add];exact e3.cell _ (by rw[e7 _ ae,(hg i hi).1])
  ·rw[Nat.zero_add];exact e3.cell _ (by rw[e7 _ ae,(hg i hi).2])
def Ih(P:LP)(w:World)(e:Ending)(w':World):Prop:=∃ vr vo va,e = .returned (.agg #[.int .i64 (P.n:Int),vr,vo])/\Ext w w'/\PM P w' vr vo va
structure Sm(P:LP):Prop where
 n:P.n<=3
 m:P.m<=6
 A:∀ i,i<P.m->∀ k,k<P.n->ZB 54 (2*P.A i k)
 B:∀ i,i<P.m->ZB 54 (2*P.B i)
 C:∀ k,k<P.n->ZB 54 (2*P.C k)
theorem pK:ZB 54 (2:Rat):=⟨2,rfl,af⟩
theorem yS{x:Rat}(h:ZB 54 (2*x)):QB 2 x:=ZB.qb (D:=2) af pK h af
section
variable {P:LP}
theorem Sm.qa(h:Sm P):∀ i,i<P.m->∀ j,j<P.n->QB 2 (P.A i j):=fun i hi j hj=>yS (h.A i hi j hj)
theorem Sm.qb(h:Sm P):∀ i,i<P.m->QB 2 (P.B i):=fun i hi=>yS (h.B i hi)
theorem Sm.qc(h:Sm P):∀ j,j<P.n->QB 2 (P.C j):=fun j hj=>yS (h.C j hj)
theorem Sm.obj(h:Sm P){C:Nat->Rat}(hC:∀ k,k<P.n->ZB 54 (2*C k)):Sm { P with C:=C }:=⟨h.n,h.m,h.A,h.B,hC⟩
theorem Sm.zero(h:Sm P):Sm { P with C:=fun _=>0 }:=h.obj fun k _=>by rw[Rat.mul_zero];exact ZB.zero _
theorem Sm.unit(h:Sm P)(k:Nat){s:Rat}(hs:s=1∨s=-1):Sm (P.unit k s):=h.obj fun j _=>by
 show ZB 54 (2*(if j=k then s else 0));split
 ·rcases hs with rfl|rfl
  ·exact⟨2,by grind,af⟩
  ·exact⟨-2,by grind,af⟩
 ·rw[Rat.mul_zero];exact ZB.zero _
theorem Sm.rows(h:Sm P){m:Nat}(hm:m<=P.m):Sm { P with m:=m }:=⟨h.n,Nat.le_trans hm h.m,fun i hi=>h.A i (Nat.lt_of_lt_of_le hi hm),fun i hi=>h.B i (Nat.lt_of_lt_of_le hi hm),h.C⟩
end
structure oC(w:World)(v:Value)(m:Nat)(t:Nat->ByteArray):Prop where
 rs:Rs w v m t
 sz:∀ i,i<m->(t i).size<=1000000
 le:m<=1000
 q:yN t m 20
theorem oC.ext{w w':World}{v:Value}{m:Nat}{t:Nat->ByteArray}(h:oC w v m t)(e:Ext w w'):oC w' v m t:=⟨h.rs.ext e,h.sz,h.le,h.q⟩
theorem oC.nil(w:World):oC w (.slice none 0 0) 0 (fun _=>⟨#[]⟩):=⟨Rd.nil w _,fun i hi=>absurd hi (Nat.not_lt_zero i),af,fun i hi=>absurd hi (Nat.not_lt_zero i)⟩
theorem oC.qs{X w:World}{v:Value}{n q:Nat}{x:Nat->Rat}(h:Nq X w v n x)(hx:∀ j,j<n->QB q (x j))(hq:q<=20)(hn:n<=1000):oC w v n (fun j=>qs (x j)) :=
 ⟨h.rd (jH hn),fun j hj=>((hx j hj).mono hq).sz af,hn,fun j hj _=>⟨x j,rfl,(hx j hj).mono hq⟩⟩
section
variable {P:LP} {X w:World} {vr vc v:Value} {va:Nat->Value}
theorem cx.texts (h:cx P 17 X w v) (hn:P.n<=1000) (hm:P.m<=1000):∃ kd val o1 m1 c1 o2 m2 c2 o3 m3 c3 t1 t2 t3,v = .agg #[.int .i64 kd,.string val,.slice o1 m1 c1,.slice o2 m2 c2,.slice o3 m3 c3]/\val.size<=1000000 /\
    oC w (.slice o1 m1 c1) m1 t1/\oC w (.slice o2 m2 c2) m2 t2/\oC w (.slice o3 m3 c3) m3 t3/\Ed P kd val t1 m1 t2 m2 t3 m3=0:=by
 rcases h with⟨val,x,y,vp,vd,rfl,h2,h3,h4,h5,h6,h7⟩|⟨y,vd,rfl,h2,h3,h4⟩|⟨x,d,vp,vd,rfl,h2,h3,h4,h5,h6⟩
 ·obtain⟨a,c,rfl⟩:=h6.iH;obtain⟨a',c',rfl⟩:=h7.iH;exact⟨_,_,_,_,_,_,_,_,_,_,_,_,_,_,rfl,h3.sz af,oC.qs h6 h4 af hn,oC.qs h7 h5 af hm,oC.nil w,yW h2 h4 h5 h3 af⟩
 ·obtain⟨a,c,rfl⟩:=h4.iH;exact⟨_,_,_,_,_,_,_,_,_,_,_,_,_,_,rfl,af,oC.nil w,oC.qs h4 h3 af hm,oC.nil w,BK h2 h3 af⟩
 ·obtain⟨a,c,rfl⟩:=h5.iH;obtain⟨a',c',rfl⟩:=h6.iH;exact⟨_,_,_,_,_,_,_,_,_,_,_,_,_,_,rfl,af,oC.qs h5 h3 af hn,oC.nil w,oC.qs h6 h4 af hn,yV h2 h3 h4 af⟩
variable (g:Gd w) (hP:PM P w vr vc va) (S:Sm P)
include g hP S
end
section
variable {P:LP} {v v':Rat} {x y x' y' d:Nat->Rat}
theorem ey.unique(h:ey P v x y)(h':ey P v' x' y'):v=v':=by
 have a:=h.least _ h'.fX;have b:=h'.least _ h.fX;rw[h'.worth] at a;rw[h.worth] at b;grind
theorem ey.Ae(h:ey P v x y)(h':dC P y'):False:=h'.none _ h.fX
theorem ey.qA(h:ey P v x y)(h':dX P x' d):False:=by
 obtain⟨z,hz,hv⟩:=h'.deep (v-1);have:=h.least _ hz;grind
theorem cx.known{q:Nat}{X w:World}{u:Value}(h:cx P q X w u)(hb:ey P v x y):∃ o1 m1 c1 o2 m2 c2,u = .agg #[.int .i64 1,.string (qs v),.slice o1 m1 c1,.slice o2 m2 c2,.slice none 0 0]:=by
 rcases h with⟨val,x1,y1,vp,vd,rfl,h2,h3,h4,h5,h6,h7⟩|⟨y1,vd,rfl,h2,h3,h4⟩|⟨x1,d1,vp,vd,rfl,h2,h3,h4,h5,h6⟩
 ·obtain⟨a,c,rfl⟩:=h6.iH;obtain⟨a',c',rfl⟩:=h7.iH;rw[h2.unique hb];exact⟨_,_,_,_,_,_,rfl⟩
 ·exact(hb.Ae h2).elim
 ·exact(hb.qA h2).elim
theorem D7.known{k q:Nat}{w w':World}{e:Ending}(h:D7 P k q w e w')(h1:ey (P.unit k 1) v x y)(h2:ey (P.unit k (-1)) v' x' y'):e = .returned (.tuple #[.string (qs v),.string (qs (-v')),.int .i64 0])/\Ext w w':=by
 obtain⟨he,h|⟨lo,hi,rfl,ha,hb⟩⟩:=h
 ·obtain⟨_,z,hz⟩:=h;exact(h1.Ae (y':=z) ⟨hz.pos,hz.comb,hz.neg⟩).elim
 ·refine⟨?_,he⟩;rcases ha with⟨z,⟨_,_,hz⟩,_,rfl⟩|⟨⟨_,_,hf⟩,_⟩
  ·rcases hb with⟨z2,⟨_,_,hz2⟩,_,rfl⟩|⟨⟨_,_,hf⟩,_⟩
   ·rw[hz.unique h1,hz2.unique h2]
   ·exact(h2.qA hf).elim
  ·exact(h1.qA hf).elim
end
def G8(w:World)(wo:Option Addr)(m:Nat)(c:Nat->Nat->Int):Prop:=∀ i,i<m->∃ wa o,wo=some ⟨wa,o,none⟩/\∀ j,j<4->w.cell? ⟨wa,o+i*4+j,none⟩=some (.int .i8 (c i j))
theorem G8.ext{w w':World}{wo:Option Addr}{m:Nat}{c:Nat->Nat->Int}(h:G8 w wo m c)(e:Ext w w'):G8 w' wo m c:=fun i hi=>let ⟨wa,o,a,b⟩:=h i hi;⟨wa,o,a,fun j hj=>ax e (b j hj)⟩
theorem Cd{s:ByteArray}(h:rq s=true):∃ q:Rat,s=qs q:=by
 obtain⟨q,hq,hn,hd⟩:=jX.1 h;refine⟨q,?_⟩;cases s with
 | mk d =>
  have:d.toList=ql q:=hq;unfold qs
  congr 1
  rw[← this]
theorem ur{q:Rat}{k:Nat}(h:(qs q).size<=k):QB k q:=by
 rw[j0] at h;by_cases hd:q.den=1
 ·rw[dK hd] at h;refine⟨cd h,?_⟩;have:=List.length_pos_iff.2 (rv q.num);rw[hd];exact Nat.one_lt_pow ae af
 ·rw[cY hd,List.length_append,List.length_cons] at h;exact⟨cd ae,a7 ae⟩
theorem yN.short{t:Nat->ByteArray}{m r:Nat}(h:∀ i,i<m->(t i).size<=r):yN t m r:=fun i hi hr=>by
 obtain⟨q,hq⟩:=Cd hr;have:=h i hi;rw[hq] at this;exact⟨q,hq,ur this⟩
theorem oC.short{w:World}{v:Value}{m:Nat}{t:Nat->ByteArray}(h:Rs w v m t)(hs:∀ i,i<m->(t i).size<=20)(hm:m<=1000):oC w v m t:=⟨h,fun i hi=>Nat.le_trans (hs i hi) af,hm,yN.short hs⟩
section
variable {P:LP} {v u:Rat} {x y d z:Nat->Rat}
abbrev LP.three(P:LP):LP:={ P with C:=fun k=>3*P.C k }
abbrev LP.less(P:LP)(m:Nat):LP:={ P with m:=m }
theorem oX(x:Nat->Rat):P.three.obj x=3*P.obj x:=by
 show aH P.n (fun k=>3*P.C k*x k)=_;rw[LP.obj,← bS];exact aK fun k _=>by grind
theorem ey.three(h:ey P v x y):ey P.three (3*v) x (fun i=>3*y i):=by
 refine⟨h.fX,fun i hi=>by have:=h.pos i hi;grind,fun k hk=>?_,?_,by rw[oX,h.worth]⟩
 ·have e:P.three.comb (fun i=>3*y i) k=3*P.comb y k:=by
   show aH P.m (fun i=>3*y i*P.A i k)=_;rw[LP.comb,← bS];exact aK fun i _=>by grind
  rw[e,h.comb k hk];show 3 * -P.C k=-(3*P.C k);grind
 ·have e:P.three.oh (fun i=>3*y i)=3*P.oh y:=by
   show aH P.m (fun i=>3*y i*P.B i)=_;rw[LP.oh,← bS];exact aK fun i _=>by grind
  rw[e,h.oh];grind
theorem dC.three(h:dC P y):dC P.three y:=⟨h.pos,h.comb,h.neg⟩
theorem dX.three(h:dX P x d):dX P.three x d:=⟨h.fX,h.row,by rw[oX];have:=h.worth;grind⟩
theorem dX.less{m:Nat}(h:dX P x d)(hm:m<=P.m):dX (P.less m) x d:=⟨fun i hi=>h.fX i (Nat.lt_of_lt_of_le hi hm),fun i hi=>h.row i (Nat.lt_of_lt_of_le hi hm),h.worth⟩
def H5(kd:Int)(val:ByteArray)(v:Value):Prop:=∃ o1 m1 c1 o2 m2 c2 o3 m3 c3,v = .agg #[.int .i64 kd,.string val,.slice o1 m1 c1,.slice o2 m2 c2,.slice o3 m3 c3]
theorem cx.IE{q:Nat}{X w:World}{r:Value}(h:cx P q X w r):(∃ v x y,ey P v x y/\QB q v/\H5 1 (qs v) r)∨(∃ y,dC P y/\H5 2 ⟨#[]⟩ r)∨(∃ x d,dX P x d/\H5 3 ⟨#[]⟩ r):=by
 rcases h with⟨val,x,y,vp,vd,rfl,h2,h3,h4,h5,h6,h7⟩|⟨y,vd,rfl,h2,h3,h4⟩|⟨x,d,vp,vd,rfl,h2,h3,h4,h5,h6⟩
 ·obtain⟨a,c,rfl⟩:=h6.iH;obtain⟨a',c',rfl⟩:=h7.iH;exact Or.inl ⟨val,x,y,h2,h3,_,_,_,_,_,_,_,_,_,rfl⟩
 ·obtain⟨a,c,rfl⟩:=h4.iH;exact Or.inr (Or.inl ⟨y,h2,_,_,_,_,_,_,_,_,_,rfl⟩)
 ·obtain⟨a,c,rfl⟩:=h5.iH;obtain⟨a',c',rfl⟩:=h6.iH;exact Or.inr (Or.inr ⟨x,d,h2,_,_,_,_,_,_,_,_,_,rfl⟩)
abbrev LP.some(P:LP)(m:Nat)(f:Nat->Nat):LP:={ P with m:=m,A:=fun i=>P.A (f i),B:=fun i=>P.B (f i) }
theorem Sm.some(h:Sm P){m:Nat}{f:Nat->Nat}(hm:m<=6)(hf:∀ j,j<m->f j<P.m):Sm (P.some m f):=⟨h.n,hm,fun i hi=>h.A _ (hf i hi),fun i hi=>h.B _ (hf i hi),h.C⟩
end
def l4(a b c d:Rat)(j:Nat):Rat:=if j=0 then a else if j=1 then b else if j=2 then c else d
theorem sD(a b c d:Rat):l4 a b c d 0=a:=rfl
theorem sC(a b c d:Rat):l4 a b c d 1=b:=rfl
theorem sB(a b c d:Rat):l4 a b c d 2=c:=rfl
theorem qH(a b c d:Rat):l4 a b c d 3=d:=rfl
theorem Gq{j:Nat}(h:j<4):j=0∨j=1∨j=2∨j=3:=ae
def aG(k:Nat)(p:Nat->V3):LP:=⟨4,2*k,fun i=>if i % 2=0 then l4 (-(p (i / 2)).x) (-(p (i / 2)).y) (-1) (-1) else l4 (p (i / 2)).x (p (i / 2)).y 1 (-1),fun i=>if i % 2=0 then -(p (i / 2)).z else(p (i / 2)).z,l4 0 0 0 1⟩
def de(p:Nat->V3)(x:Nat->Rat)(i:Nat):Rat:=(p i).z-(x 0*(p i).x+x 1*(p i).y+x 2)
def jJ(q:Rat):Prop:=∃ a:Int,q=(a:Rat)/\-9<=a/\a<=9
structure bK(v:V3):Prop where
 x:jJ v.x
 y:jJ v.y
 z:jJ v.z
theorem Ek(g:Nat->Rat):aH 4 g=g 0+g 1+g 2+g 3:=by simp only[aH];grind
section
variable {k:Nat} {p:Nat->V3} {x y d:Nat->Rat} {v v':Rat}
theorem l5:(aG k p).obj x=x 3:=by
 show aH 4 (fun j=>l4 0 0 0 1 j*x j)=x 3;rw[Ek];simp only[sD,sC,sB,qH];grind
theorem k5(i j:Nat):(aG k p).A (2*i) j=l4 (-(p i).x) (-(p i).y) (-1) (-1) j:=by
 simp only[aG,show 2*i % 2=0 by omega,show 2*i / 2=i by omega,if_true]
theorem kZ(i j:Nat):(aG k p).A (2*i+1) j=l4 (p i).x (p i).y 1 (-1) j:=by
 show(if (2*i+1) % 2=0 then _ else _:Nat->Rat) j=_;rw[if_neg ae,show(2*i+1) / 2=i by omega]
theorem nN(i:Nat)(x:Nat->Rat):aH 4 (fun j=>(aG k p).A (2*i) j*x j)=-(p i).x*x 0-(p i).y*x 1-x 2-x 3:=by
 rw[Ek];simp only[k5,sD,sC,sB,qH];grind
theorem qR(i:Nat)(x:Nat->Rat):aH 4 (fun j=>(aG k p).A (2*i+1) j*x j)=(p i).x*x 0+(p i).y*x 1+x 2-x 3:=by
 rw[Ek];simp only[kZ,sD,sC,sB,qH];grind
theorem nP(i:Nat):(aG k p).B (2*i)=-(p i).z:=by simp only[aG,show 2*i % 2=0 by omega,show 2*i / 2=i by omega,if_true]
theorem nO(i:Nat):(aG k p).B (2*i+1)=(p i).z:=by
 show(if (2*i+1) % 2=0 then _ else _:Rat)=_;rw[if_neg ae,show(2*i+1) / 2=i by omega]
theorem qQ{m:Nat->Prop}(h0:∀ i,i<k->m (2*i))(h1:∀ i,i<k->m (2*i+1)):∀ i,i<2*k->m i:=fun i hi=>by
 rcases Nat.mod_two_eq_zero_or_one i with h|h
 ·have:=h0 (i / 2) ae;rwa[show 2*(i / 2)=i by omega] at this
 ·have:=h1 (i / 2) ae;rwa[show 2*(i / 2)+1=i by omega] at this
theorem nM(h:∀ i,i<k->de p x i<=x 3/\-de p x i<=x 3):(aG k p).fX x :=
 qQ (fun i hi=>by show aH 4 _<=_;rw[nN,nP];have:=(h i hi).1;unfold de at this;grind) (fun i hi=>by show aH 4 _<=_;rw[qR,nO];have:=(h i hi).2;unfold de at this;grind)
theorem A2(h:(aG k p).fX x)(i:Nat)(hi:i<k):de p x i<=x 3/\-de p x i<=x 3:=by
 have a:aH 4 _<=_:=h (2*i) (show 2*i<2*k by omega);have b:aH 4 _<=_:=h (2*i+1) (show 2*i+1<2*k by omega);rw[nN,nP] at a;rw[qR,nO] at b;unfold de;grind
theorem Cz{q:Rat}(h:jJ q):q<=9/\-q<=9:=by
 obtain⟨a,rfl,h1,h2⟩:=h;have e1:((9:Int):Rat)=9:=rfl;constructor
 ·rw[← e1];exact Rat.intCast_le_intCast.2 h2
 ·rw[← e1,← Rat.intCast_neg];exact Rat.intCast_le_intCast.2 ae
theorem qB{q:Rat}(h:jJ q):ZB 9 (1*q):=by obtain⟨a,rfl,h1,h2⟩:=h;exact⟨a,Rat.one_mul _,ae⟩
theorem gD{q:Rat}(h:jJ q):jJ (-q):=by obtain⟨a,rfl,h1,h2⟩:=h;exact⟨-a,(Rat.intCast_neg a).symm,ae,ae⟩
theorem ee{q:Rat}(h:jJ q):QB 1 q:=by
 obtain⟨a,rfl,h1,h2⟩:=h;exact QB.int ⟨ae⟩ af
theorem gW:jJ 1:=⟨1,rfl,af,af⟩
theorem gr:jJ 0:=⟨0,rfl,af,af⟩
theorem uI{m:Rat->Prop}{a b c d:Rat}(ha:m a)(hb:m b)(hc:m c)(hd:m d)(j:Nat):m (l4 a b c d j):=by unfold l4;split;exact ha;split;exact hb;split;exact hc;exact hd
theorem sW(h:∀ i,i<k->bK (p i)):∀ i,i<2*k->∀ j,jJ ((aG k p).A i j):=qQ
 (fun i hi j=>by rw[k5];exact uI (gD (h i hi).x) (gD (h i hi).y) (gD gW) (gD gW) j)
 (fun i hi j=>by rw[kZ];exact uI (h i hi).x (h i hi).y gW (gD gW) j)
theorem wS(h:∀ i,i<k->bK (p i)):∀ i,i<2*k->jJ ((aG k p).B i):=qQ
 (fun i hi=>by rw[nP];exact gD (h i hi).z) (fun i hi=>by rw[nO];exact(h i hi).z)
theorem DV(j:Nat):jJ ((aG k p).C j):=uI gr gr gr gW j
theorem Dl(h:∀ i,i<k->bK (p i)):D6 (aG k p) 7:=Sz.Ij (s:=1) (K:=9) ⟨af,af,⟨1,rfl,af⟩,fun i hi j _=>qB (sW h i hi j),fun i hi=>qB (wS h i hi),fun j _=>qB (DV j)⟩ (by show(4+1)*9*FB 4 9<10 ^ 7;decide)
theorem yu(h:∀ i,i<k->bK (p i)):(aG k p).fX (l4 0 0 0 9):=nM fun i hi=>by
 have:=Cz (h i hi).z;simp only[de,sD,sC,sB,qH];grind
theorem yv(hk:0<k)(h:dX (aG k p) x d):False:=by
 have a:aH 4 _<=_:=h.row 0 (show 0<2*k by omega);have b:aH 4 _<=_:=h.row 1 (show 1<2*k by omega);have c:=h.worth;rw[l5] at c;rw[show(0:Nat)=2*0 from rfl,nN] at a;rw[show(1:Nat)=2*0+1 from rfl,qR] at b;grind
def iw(a:Rat):Rat:=if a<0 then -a else a
def gY(f:Nat->Rat):Nat->Rat
 | 0=>0
 | k+1=>j2 (gY f k) (iw (f k))
theorem Cn{a c:Rat}(h1:a<=c)(h2:-a<=c):iw a<=c:=by unfold iw;split <;> assumption
theorem C4(a:Rat):a<=iw a/\-a<=iw a/\0<=iw a:=by unfold iw;split <;> grind
theorem wj(a b:Rat):a<=j2 a b/\b<=j2 a b:=by unfold j2;split <;> grind
theorem Ck{a b c:Rat}(h1:a<=c)(h2:b<=c):j2 a b<=c:=by unfold j2;split <;> assumption
theorem wD{f:Nat->Rat}{c:Rat}(h0:0<=c):∀ k,(∀ i,i<k->iw (f i)<=c)->gY f k<=c
 | 0,_=>h0
 | k+1,h=>Ck (wD h0 k fun i hi=>h i ae) (h k ae)
theorem wH{f:Nat->Rat}:∀ k i,i<k->iw (f i)<=gY f k
 | k+1,i,hi=>by
  by_cases e:i=k
  ·subst e;exact(wj _ _).2
  ·exact Rat.le_trans (wH k i ae) (wj _ _).1
theorem AV(hk:0<k)(h:ey (aG k p) v x y):gY (de p x) k=v:=by
 have e:x 3=v:=by rw[← h.worth,l5]
 have f:=A2 h.fX;have z:0<=v:=by have:=f 0 hk;rw[e] at this;grind
 refine Rat.le_antisymm (wD z k fun i hi=>by have:=f i hi;rw[e] at this;exact Cn this.1 this.2) ?_;have:=h.least (l4 (x 0) (x 1) (x 2) (gY (de p x) k)) (nM fun i hi=>by
  have a:=wH (f:=de p x) k i hi;have b:=C4 (de p x i);simp only[de,sD,sC,sB,qH] at a b ⊢;grind)
 rw[l5] at this;exact this
end
def DS:Nat->V3:=fun i=>if i=0 then⟨0,0,0⟩ else if i=1 then⟨1,0,0⟩ else if i=2 then⟨0,1,0⟩ else⟨1,1,2⟩
def G2:Nat->Rat:=fun i=>if i=0∨i=3∨i=5∨i=6 then 1 / 4 else 0
theorem Ay:ey (aG 4 DS) (1 / 2) (l4 1 1 (-1 / 2) (1 / 2)) G2:=by
 refine⟨nM fun i hi=>?_,fun i hi=>?_,fun j hj=>?_,?_,?_⟩
 ·rcases Gq hi with rfl|rfl|rfl|rfl <;> simp[de,l4,DS] <;> grind
 ·unfold G2;split <;> grind
 ·have hj':j<4:=hj;rcases Gq hj' with rfl|rfl|rfl|rfl <;> simp[LP.comb,aH,aG,DS,l4,G2] <;> grind
 ·simp[LP.oh,aH,aG,DS,l4,G2] <;> grind
 ·rw[l5,qH]
theorem Ax(i:Nat):bK (DS i):=by
 unfold DS;split
 ·exact⟨gr,gr,gr⟩
 ·split
  ·exact⟨gW,gr,gr⟩
  ·split
   ·exact⟨gr,gW,gr⟩
   ·exact⟨gW,gW,⟨2,rfl,af,af⟩⟩
structure F3(w:World)(vv:Int)(m:Nat)(wo:Option Addr)(c:Nat->Nat->Int)(o0 o1 o2:Int):Prop where
 v:0<=vv/\vv<=255
 rows:G8 w wo m c
 c:∀ i j,-128<=c i j/\c i j<=127
 o0:-128<=o0/\o0<=127
 o1:-128<=o1/\o1<=127
 o2:-128<=o2/\o2<=127
theorem F3.ext{w w':World}{vv:Int}{m:Nat}{wo:Option Addr}{c:Nat->Nat->Int}{o0 o1 o2:Int}(h:F3 w vv m wo c o0 o1 o2)(e:Ext w w'):F3 w' vv m wo c o0 o1 o2:=⟨h.v,h.rows.ext e,h.c,h.o0,h.o1,h.o2⟩
end Go.Proofs.YtmahadmefplbnaaGreatDoor
