/- Part 32. -/
import Derived.Test.YtmahadmefplbnaaGreatDoorQFUB
import Derived.Test.YtmahadmefplbnaaGreatDoorQFU31
import Derived.Lib.AppendZeros
set_option maxRecDepth 100000
set_option maxHeartbeats 2000000
set_option linter.unusedSimpArgs false
set_option linter.unusedVariables false
namespace Go.Proofs.YtmahadmefplbnaaGreatDoor
open Go Go.RowKit
def lS (is:Nat->Bool):Nat->Bool
 | 0=>false
 | k+1=>lS is k || is k
theorem any_false {is:Nat->Bool}:∀ {n:Nat},lS is n=false ↔ ∀ i,i<n->is i=false
 | 0=>⟨fun _ i hi=>ae,fun _=>rfl⟩
 | n+1=>by
  rw [lS,Bool.or_eq_false_iff,any_false];exact ⟨fun ⟨h1,h2⟩ i hi=>by
   by_cases e:i=n
   ·rw [e];exact h2
   ·exact h1 i ae,fun h=>⟨fun i hi=>h i ae,h n ae⟩⟩
theorem any_true {is:Nat->Bool} {n:Nat}:lS is n=true ↔ ∃ i,i<n/\is i=true:=by
 rw [← Bool.not_eq_false,any_false];exact ⟨fun h=>Classical.not_not.1 (fun h'=>h (fun i hi=>by have:=fun e=>h' ⟨i,hi,e⟩;simpa using this)),fun ⟨i,h1,h2⟩ h=>by rw [h i h1] at h2;cases h2⟩
theorem Fy {is:Nat->Bool} {n:Nat}:decide (0<=fi is n)=lS is n:=by
 rcases kA is n with ⟨h1,h2⟩|⟨k,h1,h2,h3,_⟩
 ·rw [any_false.2 h2,h1];decide
 ·rw [any_true.2 ⟨k,h1,h3⟩,h2];simp
def yG (H:Nat->Value) (m:Nat):Prop:=∀ i,i<m->∃ s:ByteArray,H i = .string s/\rq s=true/\s.size<=1000000
def vI (X w:World) (v:Value) (n:Nat):Prop:=n<=10000/\∃ G,bV X w 34 1 v n G/\yG G n
theorem Ic {s:ByteArray} (h:rq s=true) (hl:s.size<=1000000):yG (fun _ => .string s) 1:=fun _ _=>⟨s,rfl,h,hl⟩
theorem vI.iA {X w:World} {v:Value} {n:Nat} (h:vI X w v n):∃ a k c,v = .slice a k c:=let ⟨_,_,o,_⟩:=h;o.iA
theorem vI.ext {X w w':World} {v:Value} {n:Nat} (h:vI X w v n) (e:Ext w w'):vI X w' v n:=let ⟨a,G,o,r⟩:=h;⟨a,G,o.ext e,r⟩
theorem vI.not {X w:World} {v:Value} {n k:Nat} {C:Array Value} {t:TypeId} (h:vI X w v n) (b:ak w k C t) (ht:34≠t):¬ ey v k:=let ⟨_,_,o,_⟩:=h;o.aP b ht
def Iw (w:World) (e:Ending) (w':World):Prop:=∃ v n,e = .returned v/\Ext w w'/\vI w w' v n/\n<=3000
theorem vI.mono {X w W:World} {v:Value} {n:Nat} (h:vI w W v n) (e:Ext X w):vI X W v n:=by
 obtain ⟨a,G,o,r⟩:=h;refine ⟨a,G,?_,r⟩;rcases o with o|⟨k,cap,C,h1,h2,h3⟩
 ·exact Or.inl o
 ·exact Or.inr ⟨k,cap,C,h1,Nat.le_trans e.size h2,h3⟩
section
variable {P:Program} {X w:World} {n m c:Nat} {v:Value} {ao:Option Addr} {H:Nat->Value}
theorem fl {o:Oper} {a:Act} {Q:Exit->Act->World->Prop} {K:Act->World->Prop} {s x:Operand} (ho:o.op = .call { callee:=.builtin .append,args:=#[s,x],argTypes:=#[30,30] })
    (hs:a.eval s=v) (hx:a.eval x = .slice ao m c) (hX:Ext X w) (h:vI X w v n) (hr:Rd w (.slice ao m c) m H) (hH:yG H m) (hl:n+m<=10000)
    (hK:∀ b k c w',vI X w' (.slice b k c) (n+m)->Mv X w (ey v) w'->K (a.put o.dst (.slice b k c)) w'):o.wp Tryz.prog a w K Q:=by
 obtain ⟨_,G,ho1,hG⟩:=h;have one:∀ j,j<m->(H j).oneCell'=true:=fun j hj=>by obtain ⟨s,e,_⟩:=hH j hj;rw [e];rfl
 have rt:yG (app (n*1) G H) (n+m):=fun i hi=>by
  by_cases e:i<n
  ·rw [fN ae];exact hG i e
  ·rw [en ae];have:=hH (i-n) ae;rwa [Nat.mul_one]
 have low:∀ k,ey v k->X.heap.size<=k:=fun k hk=>(ho1.lt hk).1
 have fin0:∀ (e:m=0) (hr:(Builtin.append_ #[30,30] o.type #[v,.slice ao m c]).run Tryz.prog w = .ok v w),o.wp Tryz.prog a w K Q:=fun e hr=>by
  obtain ⟨b,k,c',rfl⟩:=ho1.iA;unfold Oper.wp execOp;simp only [ho,resolve,invoke,builtin,Sem.run_bind,Sem.run_pure,Result.andThen_ok,List.map_toArray,List.map_cons,List.map_nil,hs,hx,hr];exact hK _ _ _ w ⟨hl,G,by rw [e,Nat.add_zero];exact ho1,by rw [e,Nat.add_zero];exact hG⟩ (Mv.refl hX low)
 obtain ⟨ao',c',e1,_,_,hc⟩:=hr;cases e1;by_cases hm:m=0
 ·refine fin0 hm ?_;subst hm;obtain ⟨i,hi⟩:∃ i,Tryz.prog.info? 34=some i:=by
   cases h:Tryz.prog.info? 34 with
   | none=>have:=iB;rw [h] at this;cases this
   | some i=>exact ⟨i,rfl⟩
  have ho2:=ho1;rcases ho2 with ⟨rfl,rfl⟩|⟨k,cap,C,rfl,_,hB,hnc,_⟩
  ·cases ao <;> simp [Builtin.append_,run_underlying iR,sizeOf,typeInfo,hi,Builtin.lenOf,Builtin.firstCells,loadCells,loadCellsFrom]
  ·cases ao <;> simp [Builtin.append_,run_underlying iR,sizeOf,typeInfo,hi,Builtin.lenOf,Builtin.firstCells,loadCells,loadCellsFrom,hnc,storeCells]
 ·obtain ⟨ad,rfl,_⟩:=hc 0 ae;exact gJ (X:=X) (G:=G) (H:=H) ho hs hx iR iB rfl hX ho1 (fun _=>ae) (fun j hj=>by obtain ⟨ad',e,h⟩:=hc j ae;rw [Option.some.inj e];exact h) (fun j hj=>one j ae) (by unfold maxLen;omega) ae
   (fun b k c w' hA=>hK b k c w' ⟨hl,_,hA.own,rt⟩ hA.mv)
end
theorem qk (t:ByteArray) (w:World) (g:Gd w) (hl:t.size<=1000000):Calls Tryz.prog 61 #[.string t] w (aC w (.bool (!rq t))):=by
 have HG:=ai g;clear g;go_enter Tryz.func61,Tryz.ntmps61;by_cases h:rq t=true
 ·go_wp2_with fail;refine cto (fE t w HG.o hl h) fun w1 e1=>?_
  have HX1:Hid (Ext w w1):=ai ((Ext.refl w).trans e1);clear e1;go_wp2;go_ret;exact ⟨by rw [h];rfl,HX1.o⟩
 ·rename _=>h0
  have h:rq t=false:=by simpa using h0
  go_wp2_with fail;refine cto (jD t w HG.o hl h) fun w1 e1=>?_
  have HX1:Hid (Ext w w1):=ai ((Ext.refl w).trans e1);clear e1;go_wp2;go_ret;exact ⟨by rw [h];rfl,HX1.o⟩
theorem Gq (ao_:Option Addr) (n cap fn:Nat) (cp:Array Value) (a:Nat->Value) (is:Nat->Bool) (w:World) (hl:∀ i,i<n->∃ la,ao_=some la/\w.cell? (la.add i)=some (a i)) (hcl:∀ W,Ext w W->∀ k:Nat,k<n->Calls Tryz.prog fn (#[a k] ++ cp) W (aC W (.bool (is k)))) (hn:n<=1000000) (hcf:∀ a_ W,(callFunc fn a_).run Tryz.prog W = .ok (.enter fn a_) W):Calls Tryz.prog 184 #[.slice ao_ n cap,.func (.func fn) #[] cp] w (aC w (.int .i64 (fi is n))):=by
 have HL:=ai hl;have HCL:=ai hcl;clear hl hcl;go_enter Tryz.func184,Tryz.ntmps184;go_wp2_with fail;go_loopw [8] (fun x0_ wx=>∃ k:Nat,x0_ = .int .i64 k/\k<=n/\Hid (∀ i,i<k->is i=false)/\Hid (Ext w wx)) (fun x0_ _=>n-(intOf x0_).toNat)
 case atStart=>exact ⟨0,rfl,Nat.zero_le _,ai (fun i hi=>absurd hi (Nat.not_lt_zero i)),ai (Ext.refl w)⟩
 case round =>
  rename World=>w1
  obtain ⟨k,rfl,hkk,HGk,HH⟩:=hrel;have HX1:=ai HH.o;clear HH;by_cases hlt:k<n
  ·have hlt2:(k:Int)<((n:Nat):Int):=ae;obtain ⟨la,rfl,zl_⟩:=HL.o k hlt;have HCl:=ai zl_;clear zl_;by_cases hi:is k=true
   ·have HIS:=ai hi;clear hi;have cl_k:=aw HX1.o (HCl.o);go_wp2_with fail;refine ((HIS.o▸HCL.o _ HX1.o k hlt)).mono ?_;rintro e w2 ⟨rfl,e2⟩;have HX2:=ai (HX1.o.trans e2);clear e2 cl_k;go_wp2;go_ret;exact ⟨by rw [uV hlt HGk.o HIS.o];rfl,HX2.o⟩
   ·have HIS:Hid (is k=false):=ai (by simpa using hi);clear hi;have cl_k:=aw HX1.o (HCl.o);go_wp2_with fail;refine ((HIS.o▸HCL.o _ HX1.o k hlt)).mono ?_;rintro e w2 ⟨rfl,e2⟩;have HX2:=ai (HX1.o.trans e2);clear e2 cl_k;go_wp2_with fail;go_roundw
    case rel=>exact ⟨k+1,by go_num,ae,ai (wT HGk.o HIS.o),ai HX2.o⟩
    case measure=>simp [intOf];omega
  ·have hk2:k=n:=ae;have hge:¬ (k:Int)<((n:Nat):Int):=ae;go_wp2;go_ret;exact ⟨by rw [mB (by rw [← hk2];exact HGk.o)];rfl,HX1.o⟩
theorem DS (ao_:Option Addr) (n cap fn:Nat) (cp:Array Value) (a:Nat->Value) (is:Nat->Bool) (w:World) (hl:∀ i,i<n->∃ la,ao_=some la/\w.cell? (la.add i)=some (a i)) (hcl:∀ W,Ext w W->∀ k:Nat,k<n->Calls Tryz.prog fn (#[a k] ++ cp) W (aC W (.bool (is k)))) (hn:n<=1000000) (hcf:∀ a_ W,(callFunc fn a_).run Tryz.prog W = .ok (.enter fn a_) W):Calls Tryz.prog 112 #[.slice ao_ n cap,.func (.func fn) #[] cp] w (aC w (.bool (lS is n))):=by
 have HL:=ai hl;have HCL:=ai hcl;clear hl hcl;go_enter Tryz.func112,Tryz.ntmps112;go_wp2_with fail;refine cto (Gq ao_ n cap fn cp a is w HL.o HCL.o hn hcf) fun w1 e1=>?_
 have HX1:Hid (Ext w w1):=ai ((Ext.refl w).trans e1);clear e1;go_wp2;go_ret;exact ⟨by rw [← Fy];rfl,HX1.o⟩
theorem Fi (n:Nat) (w:World) (hn:n<=10000):Calls Tryz.prog 207 #[.slice none 0 0,.int .i64 (n:Int)] w fun e w'=>∃ a k c,e = .returned (.slice a k c)/\Ext w w'/\vI w w' (.slice a k c) 0:=by
 have El:∀ G,yG G 0:=fun G i hi=>absurd hi (Nat.not_lt_zero i)
 by_cases h0:n=0
 ·subst h0;go_enter Tryz.func207,Tryz.ntmps207;go_wp2;go_ret;exact ⟨_,_,_,rfl,Ext.refl _,ae,fun _ => .int .i64 0,bV.nil _ _ _ _ _,El _⟩
 ·have hp:0<n:=ae;obtain ⟨i,hi,hz,hs,hb⟩:∃ i,Tryz.prog.info? 34=some i/\i.zero=some (.string ⟨#[]⟩)/\i.size=1/\i.bytes=16:=by
   cases h:Tryz.prog.info? 34 with
   | none=>have:=iB;rw [h] at this;cases this
   | some i=>have:=iB;rw [h] at this;simp only [Option.map_some,Option.some.injEq,Prod.mk.injEq] at this;exact ⟨i,rfl,this.1,this.2.1,this.2.2⟩
  obtain ⟨cap,hcap⟩:∃ cap,grownCap w n 0 34=cap:=⟨_,rfl⟩
  have hr:=Lib.run_append_nil_zeros (P:=Tryz.prog) w 30 3 30 34 i (.string ⟨#[]⟩) .i64 .i64 iR ag hi hz n hp ae ae (by rw [hb];omega);rw [hcap] at hr;have hge:n<=cap:=hcap▸grownCap_ge w n 0 34;have hcm:cap<=maxLen:=hcap▸grownCap_le_maxLen w n 0 34 (by unfold maxLen;omega);have hx:Ext w (w.drew.alloc (.cells (Builtin.zeroCells (Value.string ⟨#[]⟩).cells n ++ Builtin.zeroCells (Value.string ⟨#[]⟩).cells (cap-n)) 34)):=(Ext.refl w).drew.alloc _;have ho:bV w (w.drew.alloc (.cells (Builtin.zeroCells (Value.string ⟨#[]⟩).cells n ++ Builtin.zeroCells (Value.string ⟨#[]⟩).cells (cap-n)) 34)) 34 1 (.slice (some ⟨w.heap.size,0,none⟩) 0 cap) 0 (fun _ => .int .i64 0) :=
   Or.inr ⟨_,_,_,rfl,Nat.le_refl _,ak.new _ _ _,Nat.zero_le _,hcm,by simp only [Array.size_append,size_zeroCells];show n*1+(cap-n)*1=cap*1;omega,fun i hi=>ae⟩
  have HX:=ai hx;have HO:=ai ho;have hne:¬ (n:Int)<=0:=ae;have hlt:¬ (n:Int)<0:=ae;clear hx ho hcap;go_enter Tryz.func207,Tryz.ntmps207;go_wp2_with (at_builtin;refine Lib.wpList_append_run _ rfl _ _ _ _ rfl _ _ rfl rfl _ _ hr ?_);clear hr;go_wp2;go_ret;exact ⟨_,_,_,rfl,HX.o,ae,_,HO.o,El _⟩
theorem pY {w X:World} {v:Value} {n:Nat} (g:Gd w) (h:vI X w v n):Calls Tryz.prog 112 #[v,.func (.func 61) #[] #[]] w (aC w (.bool false)):=by
 obtain ⟨hn,G,ho,hG⟩:=h;obtain ⟨ao,cap,rfl,_,_,hc⟩:=ho.rd;have:=DS ao n cap 61 #[] G (fun _=>false) w hc (fun W e k hk=>by
  obtain ⟨s,e1,e2,e3⟩:=hG k hk;rw [e1];have h:=qk s W (g.ext e) e3;rw [e2] at h;exact h) ae (fun _ _=>ag)
 rwa [any_false.2 (fun _ _=>rfl)] at this
theorem A5 (kq:Nat) (w:World) (o1:Option Addr) (m1 c1:Nat) (H1:Nat->Value) (o2:Option Addr) (m2 c2:Nat) (H2:Nat->Value) (o3:Option Addr) (m3 c3:Nat) (H3:Nat->Value) (bq:ak w kq #[.slice o1 m1 c1,.slice o2 m2 c2,.slice o3 m3 c3] 30) (r1:Rd w (.slice o1 m1 c1) m1 H1) (t1:yG H1 m1) (l1:m1<=1000) (r2:Rd w (.slice o2 m2 c2) m2 H2) (t2:yG H2 m2) (l2:m2<=1000) (r3:Rd w (.slice o3 m3 c3) m3 H3) (t3:yG H3 m3) (l3:m3<=1000):Calls Tryz.prog 129 #[.slice (some ⟨kq,0,none⟩) 3 3] w (Iw w):=by
 have HBq:=ai bq;have HR1:=ai r1;have HR2:=ai r2;have HR3:=ai r3;have HT1:=ai t1;have HT2:=ai t2;have HT3:=ai t3;clear bq r1 r2 r3 t1 t2 t3;have z1:¬ (m1:Int)<0:=Int.not_lt.2 (Int.natCast_nonneg _);have z2:¬ (m1:Int)+(m2:Int)<0:=ae;have z3:¬ (m1:Int)+(m2:Int)+(m3:Int)<0:=ae;go_enter Tryz.func129,Tryz.ntmps129;go_wp2_with fail;refine wp_loop_rounds 4 ?_;rw [rounds_succ];have cq_0:=HBq.o.cell (0) rfl;go_wp2_with fail;rw [rounds_succ];clear cq_0;have cq_1:=HBq.o.cell (1) rfl;go_wp2_with fail;rw [rounds_succ];clear cq_1;have cq_2:=HBq.o.cell (2) rfl;go_wp2_with fail;rw [rounds_succ];clear cq_2;go_wp2_with fail;refine (Fi (m1+m2+m3) _ ae).mono ?_;rintro e w1 ⟨ga,gn,gc,rfl,e1,ha_⟩;have HX1:Hid (Ext w w1):=ai ((Ext.refl w).trans e1);have HBq_1:=ai (HBq.o.ext e1);clear e1;have HAR1:=ai ha_;clear ha_;go_wp2_with fail;refine wp_loop_rounds 4 ?_;rw [rounds_succ];have cq_0:=HBq_1.o.cell (0) rfl;go_wp2_with (
  at_builtin;refine wpList_plain rfl fun K_ hK_=>fl (X:=w) (n:=0) (m:=m1) rfl rfl rfl HX1.o HAR1.o (HR1.o.ext HX1.o) HT1.o ae (fun a2_ n2_ c2_ w2 ha_ hm_=>hK_ _ _ ?_)
  have HX2:Hid (Ext w w2):=ai hm_.ext;have HBq_2:=ai (hm_.ay HBq_1.o (HAR1.o.not HBq_1.o af));have HAR2:=ai ha_;clear ha_ hm_ cq_0
 )
 rw [rounds_succ];have cq_1:=HBq_2.o.cell (1) rfl;go_wp2_with (
  at_builtin;refine wpList_plain rfl fun K_ hK_=>fl (X:=w) (n:=(0+m1)) (m:=m2) rfl rfl rfl HX2.o HAR2.o (HR2.o.ext HX2.o) HT2.o ae (fun a3_ n3_ c3_ w3 ha_ hm_=>hK_ _ _ ?_)
  have HX3:Hid (Ext w w3):=ai hm_.ext;have HBq_3:=ai (hm_.ay HBq_2.o (HAR2.o.not HBq_2.o af));have HAR3:=ai ha_;clear ha_ hm_ cq_1
 )
 rw [rounds_succ];have cq_2:=HBq_3.o.cell (2) rfl;go_wp2_with (
  at_builtin;refine wpList_plain rfl fun K_ hK_=>fl (X:=w) (n:=((0+m1)+m2)) (m:=m3) rfl rfl rfl HX3.o HAR3.o (HR3.o.ext HX3.o) HT3.o ae (fun a4_ n4_ c4_ w4 ha_ hm_=>hK_ _ _ ?_)
  have HX4:Hid (Ext w w4):=ai hm_.ext;have HAR4:=ai ha_;clear ha_ hm_ cq_2
 )
 rw [rounds_succ];go_wp2;go_ret;exact ⟨_,_,rfl,HX4.o,HAR4.o,ae⟩
theorem qz (kd:Int) (val:ByteArray) (w:World) (g:Gd w) (o1:Option Addr) (m1 c1:Nat) (H1:Nat->Value) (o2:Option Addr) (m2 c2:Nat) (H2:Nat->Value) (o3:Option Addr) (m3 c3:Nat) (H3:Nat->Value) (r1:Rd w (.slice o1 m1 c1) m1 H1) (t1:yG H1 m1) (l1:m1<=1000) (r2:Rd w (.slice o2 m2 c2) m2 H2) (t2:yG H2 m2) (l2:m2<=1000) (r3:Rd w (.slice o3 m3 c3) m3 H3) (t3:yG H3 m3) (l3:m3<=1000) (hv:kd=1->rq val=true) (hvs:val.size<=1000000):Calls Tryz.prog 49 #[.agg #[.int .i64 kd,.string val,.slice o1 m1 c1,.slice o2 m2 c2,.slice o3 m3 c3]] w (aC w (.bool true)):=by
 have HG:=ai g;have HR1:=ai r1;have HR2:=ai r2;have HR3:=ai r3;have HT1:=ai t1;have HT2:=ai t2;have HT3:=ai t3;clear g r1 r2 r3 t1 t2 t3;go_enter Tryz.func49,Tryz.ntmps49;go_wp2_with fail;refine (A5 _ _ o1 m1 c1 H1 o2 m2 c2 H2 o3 m3 c3 H3 (ak.nw (#[.slice o1 m1 c1,.slice o2 m2 c2,.slice o3 m3 c3]) 30) (HR1.o.ext (((Ext.refl w).alloc _).alloc _)) HT1.o l1 (HR2.o.ext (((Ext.refl w).alloc _).alloc _)) HT2.o l2 (HR3.o.ext (((Ext.refl w).alloc _).alloc _)) HT3.o l3).mono ?_;rintro e w1 ⟨v_,gk,rfl,e1,ha_,hgk⟩;have HX1:Hid (Ext w w1):=ai ((((Ext.refl w).alloc _).alloc _).trans e1);have HB0_1:Hid (ak w1 (w.heap.size) (#[.int .i64 kd,.string val,.slice o1 m1 c1,.slice o2 m2 c2,.slice o3 m3 c3]) 38):=ai ((((ak.nw (#[.int .i64 kd,.string val,.slice o1 m1 c1,.slice o2 m2 c2,.slice o3 m3 c3]) 38).alloc _)).ext e1);have HB1_1:Hid (ak w1 (w.heap.size+1) (#[.slice o1 m1 c1,.slice o2 m2 c2,.slice o3 m3 c3]) 30):=ai (((ak.nw (#[.slice o1 m1 c1,.slice o2 m2 c2,.slice o3 m3 c3]) 30)).ext e1);have HGEB0:Hid (w.heap.size<=w.heap.size):=ai (Nat.le_refl _);have HGEB1:Hid (w.heap.size<=w.heap.size+1):=ai ae;clear e1;obtain ⟨ga,gn,gc,rfl⟩:=ha_.iA;have HAR1:=ai (ha_.mono (((Ext.refl w).alloc _).alloc _));clear ha_;go_upto_region 2 with fail
 by_cases h1:kd=1
 ·have HV:=ai (hv h1);clear hv;have c0_0:=HB0_1.o.cell 0 rfl;have c0_1:=HB0_1.o.cell 1 rfl;go_wp2_with (
   at_builtin;refine wpList_plain rfl fun K_ hK_=>fl (X:=w) (n:=gk) (m:=1) rfl rfl rfl (HX1.o.alloc _) (HAR1.o.ext (by first|exact (Ext.refl _).alloc _|exact Ext.refl _)) (Rd.ay (ak.nw (#[.string val]) 34) (Nat.le_refl _) af (fun i hi=>by obtain rfl:i=0:=ae;rfl)) (Ic HV.o hvs) ae (fun a2_ n2_ c2_ w2 ha_ hm_=>hK_ _ _ ?_)
   have HX2:Hid (Ext w w2):=ai hm_.ext;have HAR2:=ai ha_;clear ha_ hm_ c0_0 c0_1
  )
  refine cto (pY (HG.o.ext (HX2.o)) HAR2.o) fun w3 e3=>?_
  have HX3:=ai (HX2.o.trans e3);clear e3;go_wp2;go_ret;exact ⟨rfl,HX3.o⟩
 ·have c0_0:=HB0_1.o.cell 0 rfl;go_wp2_with fail;refine cto (pY (HG.o.ext (HX1.o)) HAR1.o) fun w2 e2=>?_
  have HX2:=ai (HX1.o.trans e2);have HB0_2:=ai (HB0_1.o.ext e2);clear e2 c0_0;go_wp2;go_ret;exact ⟨rfl,HX2.o⟩
noncomputable def kp (t:Nat->ByteArray) (m k:Nat):Int:=if m≠k then 5 else if lS (fun i=>!rq (t i)) m=true then 2 else 0
theorem GA {w:World} {v:Value} {m:Nat} {t:Nat->ByteArray} (g:Gd w) (h:Rs w v m t) (hl:∀ i,i<m->(t i).size<=1000000) (hm:m<=1000000):Calls Tryz.prog 112 #[v,.func (.func 61) #[] #[]] w (aC w (.bool (lS (fun i=>!rq (t i)) m))):=by
 obtain ⟨ao,cap,rfl,_,_,hc⟩:=h;exact DS ao m cap 61 #[] (fun i => .string (t i)) (fun i=>!rq (t i)) w hc (fun W e k hk=>qk (t k) W (g.ext e) (hl k hk)) hm (fun _ _=>ag)
theorem zR (ao_:Option Addr) (ac m k:Nat) (t:Nat->ByteArray) (w:World) (g:Gd w) (hr:Rs w (.slice ao_ m ac) m t) (hl:∀ i,i<m->(t i).size<=1000000) (hm:m<=1000000):Calls Tryz.prog 120 #[.slice ao_ m ac,.int .i64 (k:Int)] w (aC w (.int .i64 (kp t m k))):=by
 have HG:=ai g;have HR:=ai hr;have HL:=ai hl;clear g hr hl;go_enter Tryz.func120,Tryz.ntmps120;by_cases h1:m≠k
 ·have h2:decide ((m:Int)=(k:Int))=false:=decide_eq_false ae;go_wp2;go_ret;exact ⟨by rw [kp,if_pos h1];rfl,(Ext.refl w)⟩
 ·obtain rfl:m=k:=Classical.not_not.1 h1;by_cases h3:lS (fun i=>!rq (t i)) m=true
  ·have HAN:=ai h3;go_wp2_with fail;refine ((HAN.o▸GA (HG.o.ext ((Ext.refl w))) (HR.o.ext (Ext.refl w)) HL.o hm)).mono ?_;rintro e w1 ⟨rfl,e1⟩;have HX1:Hid (Ext w w1):=ai ((Ext.refl w).trans e1);clear e1;go_wp2;go_ret;exact ⟨by rw [kp,if_neg h1,if_pos h3];rfl,HX1.o⟩
  ·have h4:lS (fun i=>!rq (t i)) m=false:=by simpa using h3
   have HAN:=ai h4;go_wp2_with fail;refine ((HAN.o▸GA (HG.o.ext ((Ext.refl w))) (HR.o.ext (Ext.refl w)) HL.o hm)).mono ?_;rintro e w1 ⟨rfl,e1⟩;have HX1:Hid (Ext w w1):=ai ((Ext.refl w).trans e1);clear e1;go_wp2;go_ret;exact ⟨by rw [kp,if_neg h1,if_neg h3];rfl,HX1.o⟩
theorem Ch {w:World} {v:Value} {m k:Nat} {t:Nat->ByteArray} (g:Gd w) (h:Rs w v m t) (hl:∀ i,i<m->(t i).size<=1000000) (hm:m<=1000000):Calls Tryz.prog 120 #[v,.int .i64 (k:Int)] w (aC w (.int .i64 (kp t m k))):=by
 have h0:=h;obtain ⟨ao,cap,rfl,_⟩:=h;exact zR ao cap m k t w g h0 hl hm
theorem QB.sz {q:Nat} {x:Rat} (h:QB q x) (hq:q<=200):(qs x).size<=1000000:=h.len ae
theorem si {w:World} {v:Value} {n:Nat} {a:Nat->Rat} (h:Rq w v n a) (g:Gd w) (hq:∀ i,i<n->QB 200 (a i)) (hn:n<=60):Calls Tryz.prog 120 #[v,.int .i64 (n:Int)] w (aC w (.int .i64 0)):=by
 have:=Ch (k:=n) (t:=fun i=>qs (a i)) g h (fun i hi=>(hq i hi).sz (Nat.le_refl _)) ae;rwa [kp,if_neg (fun h=>h rfl),if_neg (by rw [Bool.not_eq_true,any_false];intro i hi;simp [fD (hq i hi)])] at this
theorem yR (x:Rat) (w:World) (g:Gd w) (h:QB 200 x):Calls Tryz.prog 61 #[.string (qs x)] w (aC w (.bool false)):=by
 have:=qk (qs x) w g (h.sz (Nat.le_refl _));rwa [fD h] at this
structure PQ (P:LP):Prop where
 A:∀ i,i<P.m->∀ k,k<P.n->QB 200 (P.A i k)
 B:∀ i,i<P.m->QB 200 (P.B i)
 C:∀ k,k<P.n->QB 200 (P.C k)
theorem A6 (P:LP) (vr0 vc:Value) (va:Nat->Value) (w:World) (g:Gd w) (hP:PM P w vr0 vc va) (Q:PQ P) (hn:P.n<=60) (hm:P.m<=300):Calls Tryz.prog 47 #[.agg #[.int .i64 (P.n:Int),vr0,vc]] w (aC w (.int .i64 0)):=by
 have HG:=ai g;clear g;have HPO:=ai hP.obj;have HPF:=ai hP.mC;have HQA:=ai Q.A;have HQB:=ai Q.B;have HQC:=ai Q.C;clear Q;obtain ⟨ro,rcap,rfl,_,_,hrr⟩:=hP.rows;have HRR:=ai hrr;clear hrr hP;have z1:¬ (P.n:Int)<0:=Int.not_lt.2 (Int.natCast_nonneg _);have z2:¬ (60:Int)<(P.n:Int):=ae;have z3:¬ (300:Int)<(P.m:Int):=ae;go_enter Tryz.func47,Tryz.ntmps47;go_wp2_with fail;refine cto (si (HPO.o.ext ((Ext.refl w).alloc _)) (HG.o.ext (((Ext.refl w).alloc _))) HQC.o hn) fun w1 e1=>?_
 have HX1:Hid (Ext w w1):=ai (((Ext.refl w).alloc _).trans e1);have HB0_1:Hid (ak w1 (w.heap.size) (#[.int .i64 (P.n:Int),.slice ro P.m rcap,vc]) 32):=ai (((ak.nw (#[.int .i64 (P.n:Int),.slice ro P.m rcap,vc]) 32)).ext e1);have HGEB0:Hid (w.heap.size<=w.heap.size):=ai (Nat.le_refl _);clear e1;have c0_1:=HB0_1.o.cell 1 rfl;go_wp2_with fail;clear c0_1;go_loopw [32] (fun x0_ wx=>∃ k:Nat,x0_ = .int .i64 k/\k<=P.m/\Hid (Ext w wx/\ak wx (w.heap.size) (#[.int .i64 (P.n:Int),.slice ro P.m rcap,vc]) 32)) (fun x0_ _=>P.m-(intOf x0_).toNat)
 case atStart=>exact ⟨0,rfl,Nat.zero_le _,ai ⟨HX1.o,HB0_1.o⟩⟩
 case round =>
  rename World=>w2
  obtain ⟨k,rfl,hkk,HH⟩:=hrel;have HX2:=ai HH.o.1;have HB0_2:=ai HH.o.2;clear HH;by_cases hlt:k<P.m
  ·have hlt2:(k:Int)<((P.m:Nat):Int):=ae;obtain ⟨ra,o_,rfl,zr_,zs_⟩:=HRR.o k hlt;obtain ⟨fo,fcap,ef_,_⟩:=HPF.o k hlt;rw [ef_] at zr_;have HFK:=ai (ef_▸HPF.o k hlt);have HCr:=ai zr_;have HCs:=ai zs_;clear zr_ zs_ ef_;have cr_o____k___2:=aw HX2.o (HCr.o);have cr_o____k___2___1:=aw HX2.o (HCs.o);go_upto_region 11 with fail
   refine au (fun W=>Ext w W/\ak W (w.heap.size) (#[.int .i64 (P.n:Int),.slice (some ⟨ra,o_,none⟩) P.m rcap,vc]) 32/\ak W (w2.heap.size) (#[.slice fo P.n fcap,.string (qs (P.B k))]) 97) ⟨(HX2.o.alloc _),(HB0_2.o.alloc _),(ak.nw (#[.slice fo P.n fcap,.string (qs (P.B k))]) 97)⟩ ?_;rintro w3 ⟨e3,bB0_3,bB1_3⟩;have HX3:=ai e3;have HB0_3:=ai bB0_3;have HB1_3:=ai bB1_3;have HGEB1:Hid (w.heap.size<=w2.heap.size):=ai (HX2.o.size);clear e3 bB0_3 bB1_3 cr_o____k___2 cr_o____k___2___1;have c1_0:=HB1_3.o.cell 0 rfl;have c0_0:=HB0_3.o.cell 0 rfl;go_wp2_with fail;refine cto (si (HFK.o.ext HX3.o) (HG.o.ext (HX3.o)) (HQA.o k hlt) hn) fun w4 e4=>?_
   have HX4:=ai (HX3.o.trans e4);have HB0_4:=ai (HB0_3.o.ext e4);have HB1_4:=ai (HB1_3.o.ext e4);clear e4 c1_0 c0_0;have c1_1:=HB1_4.o.cell 1 rfl;go_wp2_with fail;refine cto (yR (P.B k) _ (HG.o.ext (HX4.o)) (HQB.o k hlt)) fun w5 e5=>?_
   have HX5:=ai (HX4.o.trans e5);have HB0_5:=ai (HB0_4.o.ext e5);clear e5 c1_1;go_wp2_with fail;go_roundw
   case rel=>exact ⟨k+1,by go_num,ae,ai ⟨HX5.o,HB0_5.o⟩⟩
   case measure=>simp [intOf];omega
  ·have hk2:k=P.m:=ae;have hge:¬ (k:Int)<((P.m:Nat):Int):=ae;go_wp2;go_ret;exact ⟨rfl,HX2.o⟩
structure Fr (X W:World):Prop where
 out:Ext X W
theorem Fr.refl (X:World):Fr X X:=⟨Ext.refl X⟩
theorem Fr.ext {X W W':World} (h:Fr X W) (e:Ext W W'):Fr X W':=⟨h.out.trans e⟩
theorem Fr.alloc {X W:World} (h:Fr X W) (o:Obj):Fr X (W.alloc o):=⟨h.out.alloc o⟩
theorem Fr.drew {X W:World} (h:Fr X W):Fr X W.drew:=⟨h.out.drew⟩
theorem Fr.other {X W:World} (h:Fr X W) {a:Addr} (u:Value) (hk:X.heap.size<=a.block):Fr X (W.setCell a u):=⟨h.out.setCell hk u⟩
section
variable {P:LP} {q:Nat} {X Y w w':World} {v:Value}
theorem cz.map (h:cz P q X w v) (f:∀ v n g,gA X w v n g->gA Y w' v n g):cz P q Y w' v:=by
 rcases h with ⟨val,x,y,vp,vd,h1,h2,h3,h4,h5,h6,h7⟩|⟨y,vd,h1,h2,h3,h4⟩|⟨x,d,vp,vd,h1,h2,h3,h4,h5,h6⟩
 ·exact Or.inl ⟨val,x,y,vp,vd,h1,h2,h3,h4,h5,f _ _ _ h6,f _ _ _ h7⟩
 ·exact Or.inr (Or.inl ⟨y,vd,h1,h2,h3,f _ _ _ h4⟩)
 ·exact Or.inr (Or.inr ⟨x,d,vp,vd,h1,h2,h3,h4,f _ _ _ h5,f _ _ _ h6⟩)
theorem cz.ext (h:cz P q X w v) (e:Ext w w'):cz P q X w' v:=h.map fun _ _ _ r=>r.ext e
theorem cz.alloc (h:cz P q X w v) (o:Obj):cz P q X (w.alloc o) v:=h.ext ((Ext.refl _).alloc o)
theorem cz.drew (h:cz P q X w v):cz P q X w.drew v:=h.ext (Ext.refl _).drew
theorem sW {b:Nat} (h:b<X.heap.size):∀ i,X.heap.size<=i->i≠b:=fun i hi e=>ae
theorem cz.other (h:cz P q X w v) {a:Addr} (u:Value) (hk:∀ i,X.heap.size<=i->i≠a.block):cz P q X (w.setCell a u) v:=h.map fun _ _ _ ⟨k,C,e,l,b,c⟩=>⟨k,C,e,l,b.other u (hk k l),c⟩
theorem cz.mv {S:Nat->Prop} {Z:World} (h:cz P q X w v) (m:Mv Z w S w') (hs:∀ k,X.heap.size<=k->¬ S k):cz P q X w' v:=h.map fun _ _ _ ⟨k,C,e,l,b,c⟩=>⟨k,C,e,l,m.ay b (hs k l),c⟩
theorem ak.cast {W:World} {b:Nat} {cs cs':Array Value} {t:TypeId} (h:ak W b cs t) (e:cs=cs'):ak W b cs' t:=e▸h
theorem cz.mono (h:cz P q X w v) (e:Ext Y X):cz P q Y w v:=h.map fun _ _ _ r=>r.mono e
theorem gA.iA {n:Nat} {g:Nat->Value} (h:gA X w v n g):∃ a c,v = .slice a n c:=let ⟨_,_,e,_⟩:=h;⟨_,_,e⟩
theorem Rd.iA {n:Nat} {g:Nat->Value} (h:Rd w v n g):∃ a c,v = .slice a n c:=let ⟨a,c,e,_⟩:=h;⟨a,c,e⟩
theorem cz.shape (h:cz P q X w v):∃ kd vl a m c d n f g h k,v = .agg #[.int .i64 kd,.string vl,.slice a m c,.slice d n f,.slice g h k]:=by
 rcases h with ⟨val,x,y,vp,vd,rfl,h2,h3,h4,h5,h6,h7⟩|⟨y,vd,rfl,h2,h3,h4⟩|⟨x,d,vp,vd,rfl,h2,h3,h4,h5,h6⟩
 ·obtain ⟨a,c,rfl⟩:=h6.iA;obtain ⟨a',c',rfl⟩:=h7.iA;exact ⟨_,_,_,_,_,_,_,_,_,_,_,rfl⟩
 ·obtain ⟨a,c,rfl⟩:=h4.iA;exact ⟨_,_,_,_,_,_,_,_,_,_,_,rfl⟩
 ·obtain ⟨a,c,rfl⟩:=h5.iA;obtain ⟨a',c',rfl⟩:=h6.iA;exact ⟨_,_,_,_,_,_,_,_,_,_,_,rfl⟩
theorem cz.kind {kd:Int} {vl:ByteArray} {u1 u2 u3:Value} (h:cz P q X w (.agg #[.int .i64 kd,.string vl,u1,u2,u3])) :
    (kd=1/\∃ val x y,vl=qs val/\dQ P val x y/\QB q val/\((∀ j,j<P.n->QB q (x j))/\Nq X w u1 P.n x)/\((∀ i,i<P.m->QB q (y i))/\Nq X w u2 P.m y)/\u3 = .slice none 0 0) ∨
    (kd=2/\vl=⟨#[]⟩/\∃ y,dB P y/\((∀ i,i<P.m->QB q (y i))/\Nq X w u2 P.m y)/\u1 = .slice none 0 0/\u3 = .slice none 0 0) ∨
    (kd=3/\vl=⟨#[]⟩/\∃ x d,dW P x d/\((∀ j,j<P.n->QB q (x j))/\Nq X w u1 P.n x)/\((∀ j,j<P.n->QB q (d j))/\Nq X w u3 P.n d)/\u2 = .slice none 0 0):=by
 rcases h with ⟨val,x,y,vp,vd,e,h2,h3,h4,h5,h6,h7⟩|⟨y,vd,e,h2,h3,h4⟩|⟨x,d,vp,vd,e,h2,h3,h4,h5,h6⟩ <;> simp only [Value.agg.injEq,Array.mk.injEq,List.cons.injEq,Value.int.injEq,Value.string.injEq,true_and,and_true] at e <;> obtain ⟨rfl,rfl,rfl,rfl,rfl⟩:=e
 ·exact Or.inl ⟨rfl,val,x,y,rfl,h2,h3,⟨h4,h6⟩,⟨h5,h7⟩,rfl⟩
 ·exact Or.inr (Or.inl ⟨rfl,rfl,y,h2,⟨h3,h4⟩,rfl,rfl⟩)
 ·exact Or.inr (Or.inr ⟨rfl,rfl,x,d,h2,⟨h3,h5⟩,⟨h4,h6⟩,rfl⟩)
theorem cz.GI {vl:ByteArray} {u1 u2 u3:Value} (h:cz P q X w (.agg #[.int .i64 1,.string vl,u1,u2,u3])):∃ val x y,vl=qs val/\dQ P val x y/\QB q val/\((∀ j,j<P.n->QB q (x j))/\Nq X w u1 P.n x)/\((∀ i,i<P.m->QB q (y i))/\Nq X w u2 P.m y)/\u3 = .slice none 0 0:=by
 rcases h.kind with h|h|h
 ·exact h.2
 ·exact absurd h.1 af
 ·exact absurd h.1 af
theorem cz.Hq {vl:ByteArray} {u1 u2 u3:Value} (h:cz P q X w (.agg #[.int .i64 3,.string vl,u1,u2,u3])):vl=⟨#[]⟩/\∃ x d,dW P x d/\((∀ j,j<P.n->QB q (x j))/\Nq X w u1 P.n x)/\((∀ j,j<P.n->QB q (d j))/\Nq X w u3 P.n d)/\u2 = .slice none 0 0:=by
 rcases h.kind with h|h|h
 ·exact absurd h.1 af
 ·exact absurd h.1 af
 ·exact h.2
theorem F7 {n:Nat} {x:Nat->Rat} (h:∀ j,j<n->QB q (x j)) (hq:q<=200):yG (fun j => .string (qs (x j))) n:=fun j hj=>⟨_,rfl,fD ((h j hj).mono hq),(h j hj).sz hq⟩
theorem El {g:Nat->Value}:yG g 0:=fun i hi=>absurd hi (Nat.not_lt_zero i)
theorem xE (g:Gd w) (h:cz P q X w v) (hq2:q<=200) (hn:P.n<=1000) (hm:P.m<=1000):Calls Tryz.prog 49 #[v] w (aC w (.bool true)):=by
 have nl:∀ g,Rd w (.slice none 0 0) 0 g:=fun g=>Rd.nil w g
 rcases h with ⟨val,x,y,vp,vd,rfl,h2,h3,h4,h5,h6,h7⟩|⟨y,vd,rfl,h2,h3,h4⟩|⟨x,d,vp,vd,rfl,h2,h3,h4,h5,h6⟩
 ·obtain ⟨a,c,rfl⟩:=h6.iA;obtain ⟨a',c',rfl⟩:=h7.iA;exact qz 1 (qs val) w g _ _ _ _ _ _ _ _ _ _ _ _ (h6.rd (lu hn)) (F7 h4 hq2) hn (h7.rd (lu hm)) (F7 h5 hq2) hm (nl fun _ => .int .i64 0) El (Nat.zero_le _) (fun _=>fD (h3.mono hq2)) (h3.sz hq2)
 ·obtain ⟨a,c,rfl⟩:=h4.iA;exact qz 2 ⟨#[]⟩ w g _ _ _ _ _ _ _ _ _ _ _ _ (nl fun _ => .int .i64 0) El (Nat.zero_le _) (h4.rd (lu hm)) (F7 h3 hq2) hm (nl fun _ => .int .i64 0) El (Nat.zero_le _) (fun h=>absurd h af) af
 ·obtain ⟨a,c,rfl⟩:=h5.iA;obtain ⟨a',c',rfl⟩:=h6.iA;exact qz 3 ⟨#[]⟩ w g _ _ _ _ _ _ _ _ _ _ _ _ (h5.rd (lu hn)) (F7 h3 hq2) hn (nl fun _ => .int .i64 0) El (Nat.zero_le _) (h6.rd (lu hn)) (F7 h4 hq2) hn (fun h=>absurd h af) af
end
def DY (P:LP) (q:Nat) (w:World) (e:Ending) (w':World):Prop:=∃ v,e = .returned (.tuple #[v,.int .i64 0])/\Ext w w'/\cz P q w w' v
theorem EH (P:LP) (vr vc:Value) (va:Nat->Value) (q:Nat) (w:World) (g:Gd w) (hP:PM P w vr vc va) (SZ:DV P q) (Q:PQ P) (hn:P.n<=60) (hm:P.m<=300) (hq1:1<=q) (hq2:q<=200) (qa:∀ i,i<P.m->∀ j,j<P.n->QB q (P.A i j)):Calls Tryz.prog 15 #[.agg #[.int .i64 (P.n:Int),vr,vc]] w (DY P q w):=by
 have HG:=ai g;have HPM:=ai hP;have HQA:=ai qa;have HQP:=ai Q;clear g hP qa Q;obtain ⟨ro,rcap,er_,_⟩:=HPM.o.rows;obtain ⟨co,ccap,ec_,_⟩:=HPM.o.obj;subst er_ ec_;go_enter Tryz.func15,Tryz.ntmps15;go_wp2_with fail;refine cto (A6 P _ _ va _ (HG.o.ext ((((Ext.refl w).alloc _).alloc _))) (HPM.o.ext (((Ext.refl w).alloc _).alloc _)) HQP.o hn hm) fun w1 e1=>?_
 have HX1:Hid (Ext w w1):=ai ((((Ext.refl w).alloc _).alloc _).trans e1);have HB0_1:Hid (ak w1 (w.heap.size) (#[.int .i64 (P.n:Int),.slice ro P.m rcap,.slice co P.n ccap]) 32):=ai ((((ak.nw (#[.int .i64 (P.n:Int),.slice ro P.m rcap,.slice co P.n ccap]) 32).alloc _)).ext e1);have HB1_1:Hid (ak w1 (w.heap.size+1) (#[.int .i64 0,.string ⟨#[]⟩,.slice none 0 0,.slice none 0 0,.slice none 0 0]) 38):=ai (((ak.nw (#[.int .i64 0,.string ⟨#[]⟩,.slice none 0 0,.slice none 0 0,.slice none 0 0]) 38)).ext e1);have HGEB0:Hid (w.heap.size<=w.heap.size):=ai (Nat.le_refl _);have HGEB1:Hid (w.heap.size<=w.heap.size+1):=ai ae;clear e1;have c0_0:=HB0_1.o.cell 0 rfl;have c0_1:=HB0_1.o.cell 1 rfl;have c0_2:=HB0_1.o.cell 2 rfl;go_wp2_with fail;refine (BK P _ _ va q _ (HG.o.ext (HX1.o)) (HPM.o.ext HX1.o) SZ (by have:=hn;show P.n<=1000;omega) (by have:=hm;show P.m<=1000;omega) hq1 ae HQA.o).mono ?_;rintro e w2 ⟨v_,rfl,e2,sv_⟩;have HX2:=ai (HX1.o.trans e2);have HB1_2:=ai (HB1_1.o.ext e2);clear e2 c0_0 c0_1 c0_2;obtain ⟨kd1,vl1,a1_,m1_,c1_,d1_,n1_,f1_,g1_,h1_,k1_,rfl⟩:=sv_.shape;have HSV1_2:=ai sv_;clear sv_;go_upto_region 5 with fail
 refine au (fun W=>Ext w W/\ak W (w.heap.size+1) (#[.int .i64 0,.string ⟨#[]⟩,.slice none 0 0,.slice none 0 0,.slice none 0 0]) 38/\cz P q w1 W (.agg #[.int .i64 kd1,.string vl1,.slice a1_ m1_ c1_,.slice d1_ n1_ f1_,.slice g1_ h1_ k1_])/\ak W (w2.heap.size) (#[.int .i64 kd1,.string vl1,.slice a1_ m1_ c1_,.slice d1_ n1_ f1_,.slice g1_ h1_ k1_]) 38) ⟨(HX2.o.alloc _),(HB1_2.o.alloc _),(HSV1_2.o.alloc _),(ak.nw (#[.int .i64 kd1,.string vl1,.slice a1_ m1_ c1_,.slice d1_ n1_ f1_,.slice g1_ h1_ k1_]) 38)⟩ ?_;rintro w3 ⟨e3,bB1_3,bSV1_3,bB2_3⟩;have HX3:=ai e3;have HB1_3:=ai bB1_3;have HSV1_3:=ai bSV1_3;have HB2_3:=ai bB2_3;have HGEB2:Hid (w.heap.size<=w2.heap.size):=ai (HX2.o.size);clear e3 bB1_3 bSV1_3 bB2_3;have c2_0:=HB2_3.o.cell 0 rfl;have c2_1:=HB2_3.o.cell 1 rfl;have c2_2:=HB2_3.o.cell 2 rfl;have c2_3:=HB2_3.o.cell 3 rfl;have c2_4:=HB2_3.o.cell 4 rfl;go_wp2_with fail;refine cto (xE (HG.o.ext (HX3.o)) (HSV1_3.o) hq2 (by show P.n<=1000;omega) (by show P.m<=1000;omega)) fun w4 e4=>?_
 have HX4:=ai (HX3.o.trans e4);have HB1_4:=ai (HB1_3.o.ext e4);have HSV1_4:=ai (HSV1_3.o.ext e4);have HB2_4:=ai (HB2_3.o.ext e4);clear e4 c2_0 c2_1 c2_2 c2_3 c2_4;have c2_0:=HB2_4.o.cell 0 rfl;have c2_1:=HB2_4.o.cell 1 rfl;have c2_2:=HB2_4.o.cell 2 rfl;have c2_3:=HB2_4.o.cell 3 rfl;have c2_4:=HB2_4.o.cell 4 rfl;have c1_0:=HB1_4.o.cell 0 rfl;have f1_0:=HB1_4.o.free 0;have c1_1:=HB1_4.o.cell 1 rfl;have f1_1:=HB1_4.o.free 1;have c1_2:=HB1_4.o.cell 2 rfl;have f1_2:=HB1_4.o.free 2;have c1_3:=HB1_4.o.cell 3 rfl;have f1_3:=HB1_4.o.free 3;have c1_4:=HB1_4.o.cell 4 rfl;have f1_4:=HB1_4.o.free 4;go_wp2_with fail;refine au (fun W=>Ext w W/\ak W (w.heap.size+1) (#[.int .i64 kd1,.string vl1,.slice a1_ m1_ c1_,.slice d1_ n1_ f1_,.slice g1_ h1_ k1_]) 38/\cz P q w1 W (.agg #[.int .i64 kd1,.string vl1,.slice a1_ m1_ c1_,.slice d1_ n1_ f1_,.slice g1_ h1_ k1_])) ⟨(((((HX4.o.setCell (HGEB1.o) _).setCell (HGEB1.o) _).setCell (HGEB1.o) _).setCell (HGEB1.o) _).setCell (HGEB1.o) _),(((((HB1_4.o.set 0 (.int .i64 kd1)).set 1 (.string vl1)).set 2 (.slice a1_ m1_ c1_)).set 3 (.slice d1_ n1_ f1_)).set 4 (.slice g1_ h1_ k1_)),(((((HSV1_4.o.other (a:=⟨w.heap.size+1,0,none⟩) _ ((sW HB1_1.o.lt))).other (a:=⟨w.heap.size+1,1,none⟩) _ ((sW HB1_1.o.lt))).other (a:=⟨w.heap.size+1,2,none⟩) _ ((sW HB1_1.o.lt))).other (a:=⟨w.heap.size+1,3,none⟩) _ ((sW HB1_1.o.lt))).other (a:=⟨w.heap.size+1,4,none⟩) _ ((sW HB1_1.o.lt)))⟩ ?_;rintro w5 ⟨e5,bB1_5,bSV1_5⟩;have HX5:=ai e5;have HB1_5:=ai bB1_5;have HSV1_5:=ai bSV1_5;clear e5 bB1_5 bSV1_5 c2_0 c2_1 c2_2 c2_3 c2_4 c1_0 f1_0 c1_1 f1_1 c1_2 f1_2 c1_3 f1_3 c1_4 f1_4;have gB1_0:=HB1_5.o.cell 0 rfl;have gB1_1:=HB1_5.o.cell 1 rfl;have gB1_2:=HB1_5.o.cell 2 rfl;have gB1_3:=HB1_5.o.cell 3 rfl;have gB1_4:=HB1_5.o.cell 4 rfl;refine bodyPost_ret (v:=.tuple #[.agg #[.int .i64 kd1,.string vl1,.slice a1_ m1_ c1_,.slice d1_ n1_ f1_,.slice g1_ h1_ k1_],.int .i64 0]) (by simp [results,Tryz.results15,go_sem,gB1_0,gB1_1,gB1_2,gB1_3,gB1_4]) rfl ⟨_,rfl,HX5.o,HSV1_5.o.mono HX1.o⟩
def GR (P:LP) (v:Rat):Prop:=∃ x y,dQ P v x y
def Bn (P:LP):Prop:=∃ x d,dW P x d
section
variable {P:LP} {q:Nat} {X w:World} {vl:ByteArray} {u1 u2 u3:Value}
theorem cz.wX (h:cz P q X w (.agg #[.int .i64 3,.string vl,u1,u2,u3])):Bn P:=by
 obtain ⟨_,x,d,hd,_⟩:=h.Hq;exact ⟨x,d,hd⟩
end
abbrev LP.unit (P:LP) (k:Nat) (s:Rat):LP:={ P with C:=fun j=>if j=k then s else 0 }
def DW (P:LP) (k q:Nat) (w:World) (e:Ending) (w':World):Prop:=Ext w w' /\
 ((e = .returned (.tuple #[.string ⟨#[]⟩,.string ⟨#[]⟩,.int .i64 22])/\∃ y,dB P y) ∨
  ∃ lo hi,e = .returned (.tuple #[.string lo,.string hi,.int .i64 0]) /\
   ((∃ z,GR (P.unit k 1) z/\QB q z/\lo=qs z)∨(Bn (P.unit k 1)/\lo=⟨#[]⟩)) /\
   ((∃ z,GR (P.unit k (-1)) z/\QB q z/\hi=qs (-z))∨(Bn (P.unit k (-1))/\hi=⟨#[]⟩)))
def tE (is:Nat->Bool) (k:Nat):List Nat:=(List.range k).filter is
theorem q8 {is:Nat->Bool} {k:Nat} (h:is k=true):tE is (k+1)=tE is k ++ [k]:=by simp [tE,List.range_succ,h]
theorem AO {is:Nat->Bool} {k:Nat} (h:is k=false):tE is (k+1)=tE is k:=by simp [tE,List.range_succ,h]
def q9 (is:Nat->Bool) (k:Nat) (j:Nat):Value:=.int .i64 (((tE is k)[j]?.getD 0:Nat):Int)
abbrev FL (X w:World) (is:Nat->Bool) (k:Nat) (v:Value):Prop:=bV X w 3 1 v (tE is k).length (q9 is k)
section
variable {X w w':World} {is:Nat->Bool} {k:Nat} {v:Value}
theorem FL.nil (X w:World) (is:Nat->Bool):FL X w is 0 (.slice none 0 0):=bV.nil _ _ _ _ _
theorem FL.skip (h:FL X w is k v) (hk:is k=false):FL X w is (k+1) v:=by
 have e:q9 is (k+1)=q9 is k:=by funext j;rw [q9,q9,AO hk]
 rw [FL,AO hk,e];exact h
theorem FL.push {v':Value} (h:App X w 3 1 v (tE is k).length 1 (q9 is k) (fun _ => .int .i64 (k:Int)) v' w') (hk:is k=true):FL X w' is (k+1) v':=by
 have e:(tE is (k+1)).length=(tE is k).length+1:=by rw [q8 hk];simp
 rw [FL,e];refine h.own.congr fun i hi=>?_
 rw [Nat.mul_one] at hi;by_cases h1:i<(tE is k).length
 ·rw [fN ae,q9,q9,q8 hk,List.getElem?_append_left h1]
 ·have:i=(tE is k).length:=ae;rw [en ae,q9,q8 hk,this];simp
theorem bV.alloc {t:TypeId} {sz n:Nat} {G:Nat->Value} (h:bV X w t sz v n G) (o:Obj):bV X (w.alloc o) t sz v n G:=h.ext ((Ext.refl _).alloc o)
theorem bV.drew {t:TypeId} {sz n:Nat} {G:Nat->Value} (h:bV X w t sz v n G):bV X w.drew t sz v n G:=h.ext (Ext.refl _).drew
theorem bV.ne {t:TypeId} {sz n:Nat} {G:Nat->Value} (h:bV X w t sz v n G) {b:Nat} (hb:w.heap.size<=b):∀ k,ey v k->k≠b:=fun k hk e=>by have:=(h.lt hk).2;omega
end
def Hy (P:LP) (x:Nat->Rat) (k:Nat):Bool:=decide (P.B k<aF P.n (fun j=>P.A k j*x j))
noncomputable def qv (t:ByteArray):Rat:=open Classical in if h:∃ x,t=qs x then h.choose else 0
theorem F8 (x:Rat):qv (qs x)=x:=by
 have h:∃ z,qs x=qs z:=⟨x,rfl⟩
 rw [qv,dif_pos h];exact (uo.1 h.choose_spec).symm
noncomputable abbrev yq (t:Nat->ByteArray) (i:Nat):Rat:=qv (t i)
noncomputable def x6 (t:Nat->ByteArray) (m k:Nat):Int:=if kp t m k≠0 then kp t m k else if lS (fun i=>decide (yq t i<0)) m=true then 3 else 0
def G1 (t:Nat->ByteArray) (m r:Nat):Prop:=∀ i,i<m->rq (t i)=true->∃ x,t i=qs x/\QB r x
noncomputable def Hz (P:LP) (t:Nat->ByteArray) (m:Nat):Int:=open Classical in if x6 t m P.m≠0 then x6 t m P.m else if P.tF (yq t)<0/\(∀ j,j<P.n->P.comb (yq t) j=0) then 0 else 23
theorem Ef (x:Rat):(x.num.sign=-1/\x<0)∨(x.num.sign=0/\¬ x<0)∨(x.num.sign=1/\¬ x<0):=by
 by_cases h:x<0
 ·exact Or.inl ⟨gL h,h⟩
 ·by_cases h0:x=0
  ·exact Or.inr (Or.inl ⟨by rw [h0];rfl,h⟩)
  ·exact Or.inr (Or.inr ⟨gK (by grind),h⟩)
noncomputable def GJ (P:LP) (t:Nat->ByteArray) (m:Nat):ByteArray × Int:=open Classical in if x6 t m P.m≠0 then (⟨#[]⟩,x6 t m P.m) else if (∀ j,j<P.n->P.comb (yq t) j=-P.C j) then (qs (-P.tF (yq t)),0) else (⟨#[]⟩,23)
def DN (kd:Int) (val:ByteArray) (np nd nr:Nat):Int:=if kd<1∨3<kd then 12 else if (kd≠1/\val≠⟨#[]⟩)∨(kd=2/\0<np)∨(kd=3/\0<nd)∨(kd≠3/\0<nr) then 7 else 0
noncomputable def mC (P:LP) (t:Nat->ByteArray) (m:Nat):Int:=open Classical in if kp t m P.n≠0 then kp t m P.n else if P.obj (yq t)<0/\(∀ k,k<P.m->(aF P.n (fun j=>P.A k j*yq t j))<=0) then 0 else 23
noncomputable def D5 (P:LP) (kd:Int) (val:ByteArray) (t1:Nat->ByteArray) (m1:Nat) (t2:Nat->ByteArray) (m2:Nat) (t3:Nat->ByteArray) (m3:Nat):Int :=
 if DN kd val m1 m2 m3≠0 then DN kd val m1 m2 m3 else if kd=2 then Hz P t2 m2 else if kp t1 m1 P.n≠0 then kp t1 m1 P.n else if 0<(tE (Hy P (yq t1)) P.m).length then 23 else if kd=3 then mC P t3 m3
 else if rq val=true then (if (GJ P t2 m2).2≠0 then (GJ P t2 m2).2 else if (GJ P t2 m2).1≠val∨qs (P.obj (yq t1))≠val then 23 else 0) else 2
theorem jv {a b:ByteArray} (h:¬ a=b):(a.toList == b.toList)=false:=by
 rw [toList_data,toList_data];rcases a with ⟨⟨m⟩⟩;rcases b with ⟨⟨n⟩⟩;simpa using fun e=>h (by rw [e])
theorem jx {a b:ByteArray} (h:a=b):(a.toList == b.toList)=true:=by rw [h];exact beq_self_eq_true _
theorem bV.FX {X w:World} {t:TypeId} {sz n:Nat} {v:Value} {G:Nat->Value} (h:bV X w t sz v n G):∃ a c,v = .slice a n c:=by
 rcases h with ⟨rfl,rfl⟩|⟨k,cap,C,rfl,_⟩
 ·exact ⟨_,_,rfl⟩
 ·exact ⟨_,_,rfl⟩
def ms (y:Nat->Rat) (k:Nat):Int:=if lS (fun i=>decide (y i<0)) k=true then 3 else 0
def l3 (a b c:Int) (j:Nat):Rat:=if j=0 then mkRat a 1 else if j=1 then mkRat b 1 else mkRat c 1
theorem bV.empty {X w:World} {t:TypeId} {k:Nat} {G:Nat->Value} (hk:X.heap.size<=k) (h:ak w k #[] t):bV X w t 1 (.slice (some ⟨k,0,none⟩) 0 0) 0 G :=
 Or.inr ⟨k,0,#[],rfl,hk,h,Nat.le_refl _,by unfold maxLen;omega,rfl,fun i hi=>absurd hi ae⟩
section
variable {P:LP} {q:Nat}
theorem oY (x:Nat->Rat):yq (fun j=>qs (x j))=x:=by funext j;exact F8 (x j)
theorem mh {x:Nat->Rat} {n:Nat} (h:∀ j,j<n->QB 200 (x j)):kp (fun j=>qs (x j)) n n=0:=by
 rw [kp,if_neg (fun h=>h rfl),if_neg];rw [Bool.not_eq_true,any_false];intro i hi;rw [fD (h i hi)];rfl
theorem wy {y:Nat->Rat} {m:Nat} (h:∀ i,i<m->QB 200 (y i)) (hp:∀ i,i<m->0<=y i):x6 (fun j=>qs (y j)) m m=0:=by
 rw [x6,if_neg (fun h'=>h' (mh h)),oY,if_neg];rw [Bool.not_eq_true,any_false];intro i hi;have:=hp i hi;exact decide_eq_false (by grind)
theorem wR {is:Nat->Bool} {n:Nat} (h:∀ i,i<n->is i=false):(tE is n).length=0:=by
 rw [List.length_eq_zero_iff,tE,List.filter_eq_nil_iff];intro i hi;rw [h i (List.mem_range.1 hi)];decide
theorem rJ {x:Nat->Rat} (h:P.fp x):∀ i,i<P.m->Hy P x i=false:=fun i hi=>decide_eq_false (by have:=h i hi;grind)
theorem yU {v:Rat} {x y:Nat->Rat} {t3:Nat->ByteArray} (h:dQ P v x y) (hx:∀ j,j<P.n->QB q (x j)) (hy:∀ i,i<P.m->QB q (y i)) (hv:QB q v) (hq:q<=200) :
    D5 P 1 (qs v) (fun j=>qs (x j)) P.n (fun i=>qs (y i)) P.m t3 0=0:=by
 have he:DN 1 (qs v) P.n P.m 0=0:=by
  rw [DN,if_neg af,if_neg];rintro (h|h|h|h)
  ·exact h.1 rfl
  ·exact absurd h.1 af
  ·exact absurd h.1 af
  ·exact absurd h.2 af
 have hb:GJ P (fun i=>qs (y i)) P.m=(qs v,0):=by
  rw [GJ,if_neg (fun h'=>h' (wy (fun i hi=>(hy i hi).mono hq) h.pos)),oY,if_pos h.comb,h.tF];rw [show - -v=v by grind]
 rw [D5,if_neg (fun h'=>h' he),if_neg af,if_neg (fun h'=>h' (mh fun j hj=>(hx j hj).mono hq)),oY,wR (rJ h.fp),if_neg af,if_neg af,if_pos (fD (hv.mono hq)),hb,if_neg (fun h'=>h' rfl),if_neg];rintro (h'|h')
 ·exact h' rfl
 ·exact h' (by rw [h.worth])
theorem By {y:Nat->Rat} {t1 t3:Nat->ByteArray} (h:dB P y) (hy:∀ i,i<P.m->QB q (y i)) (hq:q<=200):D5 P 2 ⟨#[]⟩ t1 0 (fun i=>qs (y i)) P.m t3 0=0:=by
 have he:DN 2 ⟨#[]⟩ 0 P.m 0=0:=by
  rw [DN,if_neg af,if_neg];rintro (h|h|h|h)
  ·exact h.2 rfl
  ·exact absurd h.2 af
  ·exact absurd h.1 af
  ·exact absurd h.2 af
 rw [D5,if_neg (fun h'=>h' he),if_pos rfl,Hz,if_neg (fun h'=>h' (wy (fun i hi=>(hy i hi).mono hq) h.pos)),oY,if_pos ⟨h.neg,h.comb⟩]
theorem yT {x d:Nat->Rat} {t2:Nat->ByteArray} (h:dW P x d) (hx:∀ j,j<P.n->QB q (x j)) (hd:∀ j,j<P.n->QB q (d j)) (hq:q<=200):D5 P 3 ⟨#[]⟩ (fun j=>qs (x j)) P.n t2 0 (fun j=>qs (d j)) P.n=0:=by
 have he:DN 3 ⟨#[]⟩ P.n 0 P.n=0:=by
  rw [DN,if_neg af,if_neg];rintro (h|h|h|h)
  ·exact h.2 rfl
  ·exact absurd h.1 af
  ·exact absurd h.2 af
  ·exact h.1 rfl
 rw [D5,if_neg (fun h'=>h' he),if_neg af,if_neg (fun h'=>h' (mh fun j hj=>(hx j hj).mono hq)),oY,wR (rJ h.fp),if_neg af,if_pos rfl,mC,if_neg (fun h'=>h' (mh fun j hj=>(hd j hj).mono hq)),oY,if_pos ⟨h.worth,fun k hk=>h.row k hk⟩]
end
structure MR (w:World) (n k:Nat) (vr vo:Value) (RG C vf:Nat->Value) (F:Nat->Nat->Value) (W:World):Prop where
 rows:bV w W 97 2 vr k RG
 obj:bV w W 34 1 vo n C
 mC:∀ i,i<k->bV w W 34 1 (vf i) n (F i)
def MD (k:Nat) (vr vo:Value) (vf:Nat->Value) (q:Nat):Prop:=ey vr q∨ey vo q∨∃ i,i<k/\ey (vf i) q
section
variable {w W W':World} {n k:Nat} {vr vo:Value} {RG C vf:Nat->Value} {F:Nat->Nat->Value}
theorem MR.ext (h:MR w n k vr vo RG C vf F W) (e:Ext W W'):MR w n k vr vo RG C vf F W':=⟨h.rows.ext e,h.obj.ext e,fun i hi=>(h.mC i hi).ext e⟩
theorem MR.alloc (h:MR w n k vr vo RG C vf F W) (o:Obj):MR w n k vr vo RG C vf F (W.alloc o):=h.ext ((Ext.refl _).alloc o)
theorem MR.drew (h:MR w n k vr vo RG C vf F W):MR w n k vr vo RG C vf F W.drew:=h.ext (Ext.refl _).drew
theorem MR.mv {Y:World} {S:Nat->Prop} (h:MR w n k vr vo RG C vf F W) (m:Mv Y W S W') (hs:∀ q,MD k vr vo vf q->¬ S q):MR w n k vr vo RG C vf F W' :=
 ⟨h.rows.mv m (fun q a=>hs q (Or.inl a)),h.obj.mv m (fun q a=>hs q (Or.inr (Or.inl a))),fun i hi=>(h.mC i hi).mv m (fun q a=>hs q (Or.inr (Or.inr ⟨i,hi,a⟩)))⟩
theorem MR.other (h:MR w n k vr vo RG C vf F W) {a:Addr} (u:Value) (hk:∀ q,MD k vr vo vf q->q≠a.block):MR w n k vr vo RG C vf F (W.setCell a u) :=
 ⟨h.rows.other u (fun v=>hk _ (Or.inl v) rfl),h.obj.other u (fun v=>hk _ (Or.inr (Or.inl v)) rfl),fun i hi=>(h.mC i hi).other u (fun v=>hk _ (Or.inr (Or.inr ⟨i,hi,v⟩)) rfl)⟩
theorem MR.lt (h:MR w n k vr vo RG C vf F W):∀ q,MD k vr vo vf q->w.heap.size<=q/\q<W.heap.size:=fun q d=>d.elim (fun a=>h.rows.lt a) (fun d=>d.elim (fun a=>h.obj.lt a) (fun ⟨i,hi,a⟩=>(h.mC i hi).lt a))
theorem MR.ne (h:MR w n k vr vo RG C vf F W) {b:Nat} (hb:W.heap.size<=b):∀ q,MD k vr vo vf q->q≠b:=fun q d e=>by have:=(h.lt q d).2;omega
theorem MR.G0 (h:MR w n k vr vo RG C vf F W) {b:Nat} {D:Array Value} {t:TypeId} (hB:ak W b D t) (h2:97≠t) (h3:34≠t):∀ q,MD k vr vo vf q->q≠b:=fun q d e=>by
 subst e;rcases d with d|d|⟨i,hi,d⟩
 ·exact h.rows.aP hB h2 d
 ·exact h.obj.aP hB h3 d
 ·exact (h.mC i hi).aP hB h3 d
theorem MR.push {x y vr' : Value} {vg : Nat -> Value} (h : MR w n k vr vo RG C vf F W) (hA : App w W 97 2 vr k 1 RG (fun i => if i = 0 then x else y) vr' W') (hx : bV w W 34 1 x n (F k)) (hg : vg k = x) (hg2 : ∀ i, i < k -> vg i = vf i) :
    MR w n (k+1) vr' vo (app (k*2) RG (fun i=>if i=0 then x else y)) C vg F W':=by
 refine ⟨hA.own,h.obj.mv hA.mv (fun q hq hv=>(h.rows.apart h.obj af) q hv hq),fun i hi=>?_⟩;by_cases e:i=k
 ·rw [e,hg];exact hx.mv hA.mv (fun q hq hv=>(h.rows.apart hx af) q hv hq)
 ·rw [hg2 i ae];exact (h.mC i ae).mv hA.mv (fun q hq hv=>(h.rows.apart (h.mC i ae) af) q hv hq)
end
theorem BE:Tryz.prog.underlying 29=some (.slice 97):=ag
theorem Fb:(Tryz.prog.info? 97).map (fun i=>(i.zero,i.size,i.bytes))=some (some (.agg #[.slice none 0 0,.string ⟨#[]⟩]),2,40):=ag
theorem MR.pm {w W:World} {vr vo:Value} {RG vf:Nat->Value} {P:LP} (h:MR w P.n P.m vr vo RG (fun j => .string (qs (P.C j))) vf (fun i j => .string (qs (P.A i j))) W) (hg:∀ i,i<P.m->RG (i*2)=vf i/\RG (i*2+1) = .string (qs (P.B i))):PM P W vr vo vf:=by
 refine ⟨?_,fun i hi=>(h.mC i hi).rd,h.obj.rd⟩;rcases h.rows with ⟨e1,e2⟩|⟨b,cap,D,e1,e2,e3,e4,e5,e6,e7⟩
 ·exact ⟨none,0,by rw [e1,e2],ae,by unfold maxLen;omega,fun i hi=>ae⟩
 ·refine ⟨some ⟨b,0,none⟩,cap,e1,e4,e5,fun i hi=>⟨b,0,rfl,?_,?_⟩⟩
  ·rw [Nat.zero_add];exact e3.cell _ (by rw [e7 _ ae,(hg i hi).1])
  ·rw [Nat.zero_add];exact e3.cell _ (by rw [e7 _ ae,(hg i hi).2])
def Iv (P:LP) (w:World) (e:Ending) (w':World):Prop:=∃ vr vo va,e = .returned (.agg #[.int .i64 (P.n:Int),vr,vo])/\Ext w w'/\PM P w' vr vo va
structure Sm (P:LP):Prop where
 n:P.n<=3
 m:P.m<=6
 A:∀ i,i<P.m->∀ k,k<P.n->ZB 54 (2*P.A i k)
 B:∀ i,i<P.m->ZB 54 (2*P.B i)
 C:∀ k,k<P.n->ZB 54 (2*P.C k)
theorem qj:ZB 54 (2:Rat):=⟨2,rfl,af⟩
theorem yQ {x:Rat} (h:ZB 54 (2*x)):QB 2 x:=ZB.qb (D:=2) af qj h af
section
variable {P:LP}
theorem Sm.qa (h:Sm P):∀ i,i<P.m->∀ j,j<P.n->QB 2 (P.A i j):=fun i hi j hj=>yQ (h.A i hi j hj)
theorem Sm.qb (h:Sm P):∀ i,i<P.m->QB 2 (P.B i):=fun i hi=>yQ (h.B i hi)
theorem Sm.qc (h:Sm P):∀ j,j<P.n->QB 2 (P.C j):=fun j hj=>yQ (h.C j hj)
theorem Sm.obj (h:Sm P) {C:Nat->Rat} (hC:∀ k,k<P.n->ZB 54 (2*C k)):Sm { P with C:=C }:=⟨h.n,h.m,h.A,h.B,hC⟩
theorem Sm.zero (h:Sm P):Sm { P with C:=fun _=>0 }:=h.obj fun k _=>by rw [Rat.mul_zero];exact ZB.zero _
theorem Sm.unit (h:Sm P) (k:Nat) {s:Rat} (hs:s=1∨s=-1):Sm (P.unit k s):=h.obj fun j _=>by
 show ZB 54 (2*(if j=k then s else 0));split
 ·rcases hs with rfl|rfl
  ·exact ⟨2,by grind,af⟩
  ·exact ⟨-2,by grind,af⟩
 ·rw [Rat.mul_zero];exact ZB.zero _
theorem Sm.rows (h:Sm P) {m:Nat} (hm:m<=P.m):Sm { P with m:=m }:=⟨h.n,Nat.le_trans hm h.m,fun i hi=>h.A i (Nat.lt_of_lt_of_le hi hm),fun i hi=>h.B i (Nat.lt_of_lt_of_le hi hm),h.C⟩
end
structure oW (w:World) (v:Value) (m:Nat) (t:Nat->ByteArray):Prop where
 rs:Rs w v m t
 sz:∀ i,i<m->(t i).size<=1000000
 le:m<=1000
 q:G1 t m 20
theorem oW.ext {w w':World} {v:Value} {m:Nat} {t:Nat->ByteArray} (h:oW w v m t) (e:Ext w w'):oW w' v m t:=⟨h.rs.ext e,h.sz,h.le,h.q⟩
theorem oW.nil (w:World):oW w (.slice none 0 0) 0 (fun _=>⟨#[]⟩):=⟨Rd.nil w _,fun i hi=>absurd hi (Nat.not_lt_zero i),af,fun i hi=>absurd hi (Nat.not_lt_zero i)⟩
theorem oW.qs {X w:World} {v:Value} {n q:Nat} {x:Nat->Rat} (h:Nq X w v n x) (hx:∀ j,j<n->QB q (x j)) (hq:q<=20) (hn:n<=1000):oW w v n (fun j=>qs (x j)) :=
 ⟨h.rd (lu hn),fun j hj=>((hx j hj).mono hq).sz af,hn,fun j hj _=>⟨x j,rfl,(hx j hj).mono hq⟩⟩
section
variable {P:LP} {X w:World} {vr vc v:Value} {va:Nat->Value}
theorem cz.texts (h:cz P 17 X w v) (hn:P.n<=1000) (hm:P.m<=1000):∃ kd val o1 m1 c1 o2 m2 c2 o3 m3 c3 t1 t2 t3,v = .agg #[.int .i64 kd,.string val,.slice o1 m1 c1,.slice o2 m2 c2,.slice o3 m3 c3]/\val.size<=1000000 /\
    oW w (.slice o1 m1 c1) m1 t1/\oW w (.slice o2 m2 c2) m2 t2/\oW w (.slice o3 m3 c3) m3 t3/\D5 P kd val t1 m1 t2 m2 t3 m3=0:=by
 rcases h with ⟨val,x,y,vp,vd,rfl,h2,h3,h4,h5,h6,h7⟩|⟨y,vd,rfl,h2,h3,h4⟩|⟨x,d,vp,vd,rfl,h2,h3,h4,h5,h6⟩
 ·obtain ⟨a,c,rfl⟩:=h6.iA;obtain ⟨a',c',rfl⟩:=h7.iA;exact ⟨_,_,_,_,_,_,_,_,_,_,_,_,_,_,rfl,h3.sz af,oW.qs h6 h4 af hn,oW.qs h7 h5 af hm,oW.nil w,yU h2 h4 h5 h3 af⟩
 ·obtain ⟨a,c,rfl⟩:=h4.iA;exact ⟨_,_,_,_,_,_,_,_,_,_,_,_,_,_,rfl,af,oW.nil w,oW.qs h4 h3 af hm,oW.nil w,By h2 h3 af⟩
 ·obtain ⟨a,c,rfl⟩:=h5.iA;obtain ⟨a',c',rfl⟩:=h6.iA;exact ⟨_,_,_,_,_,_,_,_,_,_,_,_,_,_,rfl,af,oW.qs h5 h3 af hn,oW.nil w,oW.qs h6 h4 af hn,yT h2 h3 h4 af⟩
variable (g:Gd w) (hP:PM P w vr vc va) (S:Sm P)
include g hP S
end
section
variable {P:LP} {v v':Rat} {x y x' y' d:Nat->Rat}
theorem dQ.unique (h:dQ P v x y) (h':dQ P v' x' y'):v=v':=by
 have a:=h.least _ h'.fp;have b:=h'.least _ h.fp;rw [h'.worth] at a;rw [h.worth] at b;grind
theorem dQ.z7 (h:dQ P v x y) (h':dB P y'):False:=h'.none _ h.fp
theorem dQ.qQ (h:dQ P v x y) (h':dW P x' d):False:=by
 obtain ⟨z,hz,hv⟩:=h'.deep (v-1);have:=h.least _ hz;grind
theorem cz.known {q:Nat} {X w:World} {u:Value} (h:cz P q X w u) (hb:dQ P v x y):∃ o1 m1 c1 o2 m2 c2,u = .agg #[.int .i64 1,.string (qs v),.slice o1 m1 c1,.slice o2 m2 c2,.slice none 0 0]:=by
 rcases h with ⟨val,x1,y1,vp,vd,rfl,h2,h3,h4,h5,h6,h7⟩|⟨y1,vd,rfl,h2,h3,h4⟩|⟨x1,d1,vp,vd,rfl,h2,h3,h4,h5,h6⟩
 ·obtain ⟨a,c,rfl⟩:=h6.iA;obtain ⟨a',c',rfl⟩:=h7.iA;rw [h2.unique hb];exact ⟨_,_,_,_,_,_,rfl⟩
 ·exact (hb.z7 h2).elim
 ·exact (hb.qQ h2).elim
theorem DW.known {k q:Nat} {w w':World} {e:Ending} (h:DW P k q w e w') (h1:dQ (P.unit k 1) v x y) (h2:dQ (P.unit k (-1)) v' x' y'):e = .returned (.tuple #[.string (qs v),.string (qs (-v')),.int .i64 0])/\Ext w w':=by
 obtain ⟨he,h|⟨lo,hi,rfl,ha,hb⟩⟩:=h
 ·obtain ⟨_,z,hz⟩:=h;exact (h1.z7 (y':=z) ⟨hz.pos,hz.comb,hz.neg⟩).elim
 ·refine ⟨?_,he⟩;rcases ha with ⟨z,⟨_,_,hz⟩,_,rfl⟩|⟨⟨_,_,hf⟩,_⟩
  ·rcases hb with ⟨z2,⟨_,_,hz2⟩,_,rfl⟩|⟨⟨_,_,hf⟩,_⟩
   ·rw [hz.unique h1,hz2.unique h2]
   ·exact (h2.qQ hf).elim
  ·exact (h1.qQ hf).elim
end
def G3 (w:World) (wo:Option Addr) (m:Nat) (c:Nat->Nat->Int):Prop:=∀ i,i<m->∃ wa o,wo=some ⟨wa,o,none⟩/\∀ j,j<4->w.cell? ⟨wa,o+i*4+j,none⟩=some (.int .i8 (c i j))
theorem G3.ext {w w':World} {wo:Option Addr} {m:Nat} {c:Nat->Nat->Int} (h:G3 w wo m c) (e:Ext w w'):G3 w' wo m c:=fun i hi=>let ⟨wa,o,a,b⟩:=h i hi;⟨wa,o,a,fun j hj=>aw e (b j hj)⟩
theorem BY {s:ByteArray} (h:rq s=true):∃ q:Rat,s=qs q:=by
 obtain ⟨q,hq,hn,hd⟩:=j6.1 h;refine ⟨q,?_⟩;cases s with
 | mk d =>
  have:d.toList=ql q:=hq;unfold qs
  congr 1
  rw [← this]
theorem ur {q:Rat} {k:Nat} (h:(qs q).size<=k):QB k q:=by
 rw [j9] at h;by_cases hd:q.den=1
 ·rw [dK hd] at h;refine ⟨b8 h,?_⟩;have:=List.length_pos_iff.2 (rI q.num);rw [hd];exact Nat.one_lt_pow ae af
 ·rw [cZ hd,List.length_append,List.length_cons] at h;exact ⟨b8 ae,aZ ae⟩
theorem G1.short {t:Nat->ByteArray} {m r:Nat} (h:∀ i,i<m->(t i).size<=r):G1 t m r:=fun i hi hr=>by
 obtain ⟨q,hq⟩:=BY hr;have:=h i hi;rw [hq] at this;exact ⟨q,hq,ur this⟩
theorem oW.short {w:World} {v:Value} {m:Nat} {t:Nat->ByteArray} (h:Rs w v m t) (hs:∀ i,i<m->(t i).size<=20) (hm:m<=1000):oW w v m t:=⟨h,fun i hi=>Nat.le_trans (hs i hi) af,hm,G1.short hs⟩
section
variable {P:LP} {v u:Rat} {x y d z:Nat->Rat}
abbrev LP.three (P:LP):LP:={ P with C:=fun k=>3*P.C k }
abbrev LP.less (P:LP) (m:Nat):LP:={ P with m:=m }
theorem px (x:Nat->Rat):P.three.obj x=3*P.obj x:=by
 show aF P.n (fun k=>3*P.C k*x k)=_;rw [LP.obj,← bK];exact aH fun k _=>by grind
theorem dQ.three (h:dQ P v x y):dQ P.three (3*v) x (fun i=>3*y i):=by
 refine ⟨h.fp,fun i hi=>by have:=h.pos i hi;grind,fun k hk=>?_,?_,by rw [px,h.worth]⟩
 ·have e:P.three.comb (fun i=>3*y i) k=3*P.comb y k:=by
   show aF P.m (fun i=>3*y i*P.A i k)=_;rw [LP.comb,← bK];exact aH fun i _=>by grind
  rw [e,h.comb k hk];show 3 * -P.C k=-(3*P.C k);grind
 ·have e:P.three.tF (fun i=>3*y i)=3*P.tF y:=by
   show aF P.m (fun i=>3*y i*P.B i)=_;rw [LP.tF,← bK];exact aH fun i _=>by grind
  rw [e,h.tF];grind
theorem dB.three (h:dB P y):dB P.three y:=⟨h.pos,h.comb,h.neg⟩
theorem dW.three (h:dW P x d):dW P.three x d:=⟨h.fp,h.row,by rw [px];have:=h.worth;grind⟩
theorem dW.less {m:Nat} (h:dW P x d) (hm:m<=P.m):dW (P.less m) x d:=⟨fun i hi=>h.fp i (Nat.lt_of_lt_of_le hi hm),fun i hi=>h.row i (Nat.lt_of_lt_of_le hi hm),h.worth⟩
def Hv (kd:Int) (val:ByteArray) (v:Value):Prop:=∃ o1 m1 c1 o2 m2 c2 o3 m3 c3,v = .agg #[.int .i64 kd,.string val,.slice o1 m1 c1,.slice o2 m2 c2,.slice o3 m3 c3]
theorem cz.Ix {q:Nat} {X w:World} {r:Value} (h:cz P q X w r):(∃ v x y,dQ P v x y/\QB q v/\Hv 1 (qs v) r)∨(∃ y,dB P y/\Hv 2 ⟨#[]⟩ r)∨(∃ x d,dW P x d/\Hv 3 ⟨#[]⟩ r):=by
 rcases h with ⟨val,x,y,vp,vd,rfl,h2,h3,h4,h5,h6,h7⟩|⟨y,vd,rfl,h2,h3,h4⟩|⟨x,d,vp,vd,rfl,h2,h3,h4,h5,h6⟩
 ·obtain ⟨a,c,rfl⟩:=h6.iA;obtain ⟨a',c',rfl⟩:=h7.iA;exact Or.inl ⟨val,x,y,h2,h3,_,_,_,_,_,_,_,_,_,rfl⟩
 ·obtain ⟨a,c,rfl⟩:=h4.iA;exact Or.inr (Or.inl ⟨y,h2,_,_,_,_,_,_,_,_,_,rfl⟩)
 ·obtain ⟨a,c,rfl⟩:=h5.iA;obtain ⟨a',c',rfl⟩:=h6.iA;exact Or.inr (Or.inr ⟨x,d,h2,_,_,_,_,_,_,_,_,_,rfl⟩)
abbrev LP.some (P:LP) (m:Nat) (f:Nat->Nat):LP:={ P with m:=m,A:=fun i=>P.A (f i),B:=fun i=>P.B (f i) }
theorem Sm.some (h:Sm P) {m:Nat} {f:Nat->Nat} (hm:m<=6) (hf:∀ j,j<m->f j<P.m):Sm (P.some m f):=⟨h.n,hm,fun i hi=>h.A _ (hf i hi),fun i hi=>h.B _ (hf i hi),h.C⟩
end
def l4 (a b c d:Rat) (j:Nat):Rat:=if j=0 then a else if j=1 then b else if j=2 then c else d
theorem nW (a b c d:Rat):l4 a b c d 0=a:=rfl
theorem nV (a b c d:Rat):l4 a b c d 1=b:=rfl
theorem nU (a b c d:Rat):l4 a b c d 2=c:=rfl
theorem lf (a b c d:Rat):l4 a b c d 3=d:=rfl
theorem Gk {j:Nat} (h:j<4):j=0∨j=1∨j=2∨j=3:=ae
def bO (k:Nat) (p:Nat->V3):LP:=⟨4,2*k,fun i=>if i % 2=0 then l4 (-(p (i / 2)).x) (-(p (i / 2)).y) (-1) (-1) else l4 (p (i / 2)).x (p (i / 2)).y 1 (-1),fun i=>if i % 2=0 then -(p (i / 2)).z else (p (i / 2)).z,l4 0 0 0 1⟩
def ic (p:Nat->V3) (x:Nat->Rat) (i:Nat):Rat:=(p i).z-(x 0*(p i).x+x 1*(p i).y+x 2)
def jQ (q:Rat):Prop:=∃ a:Int,q=(a:Rat)/\-9<=a/\a<=9
structure bu (v:V3):Prop where
 x:jQ v.x
 y:jQ v.y
 z:jQ v.z
theorem D9 (g:Nat->Rat):aF 4 g=g 0+g 1+g 2+g 3:=by simp only [aF];grind
section
variable {k:Nat} {p:Nat->V3} {x y d:Nat->Rat} {v v':Rat}
theorem fU:(bO k p).obj x=x 3:=by
 show aF 4 (fun j=>l4 0 0 0 1 j*x j)=x 3;rw [D9];simp only [nW,nV,nU,lf];grind
theorem lk (i j:Nat):(bO k p).A (2*i) j=l4 (-(p i).x) (-(p i).y) (-1) (-1) j:=by
 simp only [bO,show 2*i % 2=0 by omega,show 2*i / 2=i by omega,if_true]
theorem lj (i j:Nat):(bO k p).A (2*i+1) j=l4 (p i).x (p i).y 1 (-1) j:=by
 show (if (2*i+1) % 2=0 then _ else _:Nat->Rat) j=_;rw [if_neg ae,show (2*i+1) / 2=i by omega]
theorem oh (i:Nat) (x:Nat->Rat):aF 4 (fun j=>(bO k p).A (2*i) j*x j)=-(p i).x*x 0-(p i).y*x 1-x 2-x 3:=by
 rw [D9];simp only [lk,nW,nV,nU,lf];grind
theorem qZ (i:Nat) (x:Nat->Rat):aF 4 (fun j=>(bO k p).A (2*i+1) j*x j)=(p i).x*x 0+(p i).y*x 1+x 2-x 3:=by
 rw [D9];simp only [lj,nW,nV,nU,lf];grind
theorem q6 (i:Nat):(bO k p).B (2*i)=-(p i).z:=by simp only [bO,show 2*i % 2=0 by omega,show 2*i / 2=i by omega,if_true]
theorem q5 (i:Nat):(bO k p).B (2*i+1)=(p i).z:=by
 show (if (2*i+1) % 2=0 then _ else _:Rat)=_;rw [if_neg ae,show (2*i+1) / 2=i by omega]
theorem qY {m:Nat->Prop} (h0:∀ i,i<k->m (2*i)) (h1:∀ i,i<k->m (2*i+1)):∀ i,i<2*k->m i:=fun i hi=>by
 rcases Nat.mod_two_eq_zero_or_one i with h|h
 ·have:=h0 (i / 2) ae;rwa [show 2*(i / 2)=i by omega] at this
 ·have:=h1 (i / 2) ae;rwa [show 2*(i / 2)+1=i by omega] at this
theorem iI (h:∀ i,i<k->ic p x i<=x 3/\-ic p x i<=x 3):(bO k p).fp x :=
 qY (fun i hi=>by show aF 4 _<=_;rw [oh,q6];have:=(h i hi).1;unfold ic at this;grind) (fun i hi=>by show aF 4 _<=_;rw [qZ,q5];have:=(h i hi).2;unfold ic at this;grind)
theorem Cq {q:Rat} (h:jQ q):q<=9/\-q<=9:=by
 obtain ⟨a,rfl,h1,h2⟩:=h;have e1:((9:Int):Rat)=9:=rfl;constructor
 ·rw [← e1];exact Rat.intCast_le_intCast.2 h2
 ·rw [← e1,← Rat.intCast_neg];exact Rat.intCast_le_intCast.2 ae
theorem qR {q:Rat} (h:jQ q):ZB 9 (1*q):=by obtain ⟨a,rfl,h1,h2⟩:=h;exact ⟨a,Rat.one_mul _,ae⟩
theorem gq {q:Rat} (h:jQ q):jQ (-q):=by obtain ⟨a,rfl,h1,h2⟩:=h;exact ⟨-a,(Rat.intCast_neg a).symm,ae,ae⟩
theorem gM {q:Rat} (h:jQ q):QB 1 q:=by
 obtain ⟨a,rfl,h1,h2⟩:=h;exact QB.int ⟨ae⟩ af
theorem gN:jQ 1:=⟨1,rfl,af,af⟩
theorem fZ:jQ 0:=⟨0,rfl,af,af⟩
theorem uH {m:Rat->Prop} {a b c d:Rat} (ha:m a) (hb:m b) (hc:m c) (hd:m d) (j:Nat):m (l4 a b c d j):=by unfold l4;split;exact ha;split;exact hb;split;exact hc;exact hd
theorem AM (h:∀ i,i<k->bu (p i)):∀ i,i<2*k->∀ j,jQ ((bO k p).A i j):=qY
 (fun i hi j=>by rw [lk];exact uH (gq (h i hi).x) (gq (h i hi).y) (gq gN) (gq gN) j)
 (fun i hi j=>by rw [lj];exact uH (h i hi).x (h i hi).y gN (gq gN) j)
theorem DL (h:∀ i,i<k->bu (p i)):∀ i,i<2*k->jQ ((bO k p).B i):=qY
 (fun i hi=>by rw [q6];exact gq (h i hi).z) (fun i hi=>by rw [q5];exact (h i hi).z)
theorem DK (j:Nat):jQ ((bO k p).C j):=uH fZ fZ fZ gN j
theorem C6 (h:∀ i,i<k->bu (p i)):DV (bO k p) 7:=Sz.Ib (s:=1) (K:=9) ⟨af,af,⟨1,rfl,af⟩,fun i hi j _=>qR (AM h i hi j),fun i hi=>qR (DL h i hi),fun j _=>qR (DK j)⟩ (by show (4+1)*9*FB 4 9<10 ^ 7;decide)
theorem yo (h:∀ i,i<k->bu (p i)):(bO k p).fp (l4 0 0 0 9):=iI fun i hi=>by
 have:=Cq (h i hi).z;simp only [ic,nW,nV,nU,lf];grind
theorem yr (hk:0<k) (h:dW (bO k p) x d):False:=by
 have a:aF 4 _<=_:=h.row 0 (show 0<2*k by omega);have b:aF 4 _<=_:=h.row 1 (show 1<2*k by omega);have c:=h.worth;rw [fU] at c;rw [show (0:Nat)=2*0 from rfl,oh] at a;rw [show (1:Nat)=2*0+1 from rfl,qZ] at b;grind
end
def DH:Nat->V3:=fun i=>if i=0 then ⟨0,0,0⟩ else if i=1 then ⟨1,0,0⟩ else if i=2 then ⟨0,1,0⟩ else ⟨1,1,2⟩
def GX:Nat->Rat:=fun i=>if i=0∨i=3∨i=5∨i=6 then 1 / 4 else 0
theorem As:dQ (bO 4 DH) (1 / 2) (l4 1 1 (-1 / 2) (1 / 2)) GX:=by
 refine ⟨iI fun i hi=>?_,fun i hi=>?_,fun j hj=>?_,?_,?_⟩
 ·rcases Gk hi with rfl|rfl|rfl|rfl <;> simp [ic,l4,DH] <;> grind
 ·unfold GX;split <;> grind
 ·have hj':j<4:=hj;rcases Gk hj' with rfl|rfl|rfl|rfl <;> simp [LP.comb,aF,bO,DH,l4,GX] <;> grind
 ·simp [LP.tF,aF,bO,DH,l4,GX] <;> grind
 ·rw [fU,lf]
theorem Ar (i:Nat):bu (DH i):=by
 unfold DH;split
 ·exact ⟨fZ,fZ,fZ⟩
 ·split
  ·exact ⟨gN,fZ,fZ⟩
  ·split
   ·exact ⟨fZ,gN,fZ⟩
   ·exact ⟨gN,gN,⟨2,rfl,af,af⟩⟩
structure FW (w:World) (vv:Int) (m:Nat) (wo:Option Addr) (c:Nat->Nat->Int) (o0 o1 o2:Int):Prop where
 v:0<=vv/\vv<=255
 rows:G3 w wo m c
 c:∀ i j,-128<=c i j/\c i j<=127
 o0:-128<=o0/\o0<=127
 o1:-128<=o1/\o1<=127
 o2:-128<=o2/\o2<=127
theorem FW.ext {w w':World} {vv:Int} {m:Nat} {wo:Option Addr} {c:Nat->Nat->Int} {o0 o1 o2:Int} (h:FW w vv m wo c o0 o1 o2) (e:Ext w w'):FW w' vv m wo c o0 o1 o2:=⟨h.v,h.rows.ext e,h.c,h.o0,h.o1,h.o2⟩
end Go.Proofs.YtmahadmefplbnaaGreatDoor
