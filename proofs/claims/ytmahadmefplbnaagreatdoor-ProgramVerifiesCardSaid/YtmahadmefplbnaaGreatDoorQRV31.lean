/- Part 31. -/
import Derived.Test.YtmahadmefplbnaaGreatDoorQRV30
import Derived.Lib.AppendZeros
set_option maxRecDepth 100000
set_option maxHeartbeats 2000000
set_option linter.unusedSimpArgs false
set_option linter.unusedVariables false
theorem Go.Proofs.YtmahadmefplbnaaGreatDoor.Hi31 {p:Prop} (h:p):Go.RowKit.Hid p:=h
namespace Go.Proofs.YtmahadmefplbnaaGreatDoor
open Go Go.RowKit
def any_ (is:Nat->Bool):Nat->Bool
 | 0=>false
 | k+1=>any_ is k || is k
theorem any_false {is:Nat->Bool}:∀ {n:Nat},any_ is n=false ↔ ∀ i,i<n->is i=false
 | 0=>⟨fun _ i hi=>by omega,fun _=>rfl⟩
 | n+1=>by
  rw [any_,Bool.or_eq_false_iff,any_false];exact ⟨fun ⟨h1,h2⟩ i hi=>by
   by_cases e:i=n
   ·rw [e];exact h2
   ·exact h1 i (by omega),fun h=>⟨fun i hi=>h i (by omega),h n (by omega)⟩⟩
theorem any_true {is:Nat->Bool} {n:Nat}:any_ is n=true ↔ ∃ i,i<n/\is i=true:=by
 rw [← Bool.not_eq_false,any_false];exact ⟨fun h=>Classical.not_not.1 (fun h'=>h (fun i hi=>by have:=fun e=>h' ⟨i,hi,e⟩;simpa using this)),fun ⟨i,h1,h2⟩ h=>by rw [h i h1] at h2;cases h2⟩
theorem fi_any {is:Nat->Bool} {n:Nat}:decide (0<=fi is n)=any_ is n:=by
 rcases fi_spec is n with ⟨h1,h2⟩|⟨k,h1,h2,h3,_⟩
 ·rw [any_false.2 h2,h1];decide
 ·rw [any_true.2 ⟨k,h1,h3⟩,h2];simp
def RtV (H:Nat->Value) (m:Nat):Prop:=∀ i,i<m->∃ s:ByteArray,H i = .string s/\rq s=true/\s.size<=1000000
def ArS (X w:World) (v:Value) (n:Nat):Prop:=n<=10000/\∃ G,Osl X w 34 1 v n G/\RtV G n
theorem rt1 {s:ByteArray} (h:rq s=true) (hl:s.size<=1000000):RtV (fun _ => .string s) 1:=fun _ _=>⟨s,rfl,h,hl⟩
theorem ArS.isl {X w:World} {v:Value} {n:Nat} (h:ArS X w v n):∃ a k c,v = .slice a k c:=let ⟨_,_,o,_⟩:=h;o.isl
theorem ArS.ext {X w w':World} {v:Value} {n:Nat} (h:ArS X w v n) (e:Ext w w'):ArS X w' v n:=let ⟨a,G,o,r⟩:=h;⟨a,G,o.ext e,r⟩
theorem ArS.not {X w:World} {v:Value} {n k:Nat} {C:Array Value} {t:TypeId} (h:ArS X w v n) (b:Blk w k C t) (ht:34≠t):¬ vob v k:=let ⟨_,_,o,_⟩:=h;o.not_vob b ht
def ArP (w:World) (e:Ending) (w':World):Prop:=∃ v n,e = .returned v/\Ext w w'/\ArS w w' v n/\n<=3000
theorem ArS.mono {X w W:World} {v:Value} {n:Nat} (h:ArS w W v n) (e:Ext X w):ArS X W v n:=by
 obtain ⟨a,G,o,r⟩:=h;refine ⟨a,G,?_,r⟩;rcases o with o|⟨k,cap,C,h1,h2,h3⟩
 ·exact Or.inl o
 ·exact Or.inr ⟨k,cap,C,h1,Nat.le_trans e.size h2,h3⟩
section
variable {P:Program} {X w:World} {n m c:Nat} {v:Value} {ao:Option Addr} {H:Nat->Value}
theorem op_append_ar {o:Oper} {a:Act} {Q:Exit->Act->World->Prop} {K:Act->World->Prop} {s x:Operand} (ho:o.op = .call { callee:=.builtin .append,args:=#[s,x],argTypes:=#[30,30] })
    (hs:a.eval s=v) (hx:a.eval x = .slice ao m c) (hX:Ext X w) (h:ArS X w v n) (hr:Rd w (.slice ao m c) m H) (hH:RtV H m) (hl:n+m<=10000)
    (hK:∀ b k c w',ArS X w' (.slice b k c) (n+m)->Mv X w (vob v) w'->K (a.put o.dst (.slice b k c)) w'):o.wp Tryz.prog a w K Q:=by
 obtain ⟨_,G,ho1,hG⟩:=h;have one:∀ j,j<m->(H j).oneCell'=true:=fun j hj=>by obtain ⟨s,e,_⟩:=hH j hj;rw [e];rfl
 have rt:RtV (app (n*1) G H) (n+m):=fun i hi=>by
  by_cases e:i<n
  ·rw [app_lt (by omega)];exact hG i e
  ·rw [app_ge (by omega)];have:=hH (i-n) (by omega);rwa [Nat.mul_one]
 have low:∀ k,vob v k->X.heap.size<=k:=fun k hk=>(ho1.lt hk).1
 have fin0:∀ (e:m=0) (hr:(Builtin.append_ #[30,30] o.type #[v,.slice ao m c]).run Tryz.prog w = .ok v w),o.wp Tryz.prog a w K Q:=fun e hr=>by
  obtain ⟨b,k,c',rfl⟩:=ho1.isl;unfold Oper.wp execOp;simp only [ho,resolve,invoke,builtin,Sem.run_bind,Sem.run_pure,Result.andThen_ok,List.map_toArray,List.map_cons,List.map_nil,hs,hx,hr];exact hK _ _ _ w ⟨hl,G,by rw [e,Nat.add_zero];exact ho1,by rw [e,Nat.add_zero];exact hG⟩ (Mv.refl hX low)
 obtain ⟨ao',c',e1,_,_,hc⟩:=hr;cases e1;by_cases hm:m=0
 ·refine fin0 hm ?_;subst hm;obtain ⟨i,hi⟩:∃ i,Tryz.prog.info? 34=some i:=by
   cases h:Tryz.prog.info? 34 with
   | none=>have:=info_s;rw [h] at this;cases this
   | some i=>exact ⟨i,rfl⟩
  have ho2:=ho1;rcases ho2 with ⟨rfl,rfl⟩|⟨k,cap,C,rfl,_,hB,hnc,_⟩
  ·cases ao <;> simp [Builtin.append_,run_underlying under_s,sizeOf,typeInfo,hi,Builtin.lenOf,Builtin.firstCells,loadCells,loadCellsFrom]
  ·cases ao <;> simp [Builtin.append_,run_underlying under_s,sizeOf,typeInfo,hi,Builtin.lenOf,Builtin.firstCells,loadCells,loadCellsFrom,hnc,storeCells]
 ·obtain ⟨ad,rfl,_⟩:=hc 0 (by omega);exact op_append2 (X:=X) (G:=G) (H:=H) ho hs hx under_s info_s rfl hX ho1 (fun _=>by omega) (fun j hj=>by obtain ⟨ad',e,h⟩:=hc j (by omega);rw [Option.some.inj e];exact h) (fun j hj=>one j (by omega)) (by unfold maxLen;omega) (by omega)
   (fun b k c w' hA=>hK b k c w' ⟨hl,_,hA.own,rt⟩ hA.mv)
end
theorem wrong_c (t:ByteArray) (w:World) (g:Gd w) (hl:t.size<=1000000):Calls Tryz.prog 61 #[.string t] w (Ret w (.bool (!rq t))):=by
 have HG:=Hi31 g;clear g;go_enter Tryz.func61,Tryz.ntmps61;by_cases h:rq t=true
 ·go_wp2_with fail;refine (rcheck_yes t w HG.out hl h).mono ?_;rintro e w1 ⟨rfl,e1⟩;have HX1:Hid (Ext w w1):=Hi31 ((Ext.refl w).trans e1);clear e1;go_wp2;go_ret;exact ⟨by rw [h];rfl,HX1.out⟩
 ·rename _=>h0
  have h:rq t=false:=by simpa using h0
  go_wp2_with fail;refine (rcheck_not t w HG.out hl h).mono ?_;rintro e w1 ⟨rfl,e1⟩;have HX1:Hid (Ext w w1):=Hi31 ((Ext.refl w).trans e1);clear e1;go_wp2;go_ret;exact ⟨by rw [h];rfl,HX1.out⟩
theorem ix1_g (ao_:Option Addr) (n cap fn:Nat) (cp:Array Value) (a:Nat->Value) (is:Nat->Bool) (w:World) (hl:∀ i,i<n->∃ la,ao_=some la/\w.cell? (la.add i)=some (a i)) (hcl:∀ W,Ext w W->∀ k:Nat,k<n->Calls Tryz.prog fn (#[a k] ++ cp) W (Ret W (.bool (is k)))) (hn:n<=1000000) (hcf:∀ a_ W,(callFunc fn a_).run Tryz.prog W = .ok (.enter fn a_) W):Calls Tryz.prog 184 #[.slice ao_ n cap,.func (.func fn) #[] cp] w (Ret w (.int .i64 (fi is n))):=by
 have HL:=Hi31 hl;have HCL:=Hi31 hcl;clear hl hcl;go_enter Tryz.func184,Tryz.ntmps184;go_wp2_with fail;go_loopw [8] (fun x0_ wx=>∃ k:Nat,x0_ = .int .i64 k/\k<=n/\Hid (∀ i,i<k->is i=false)/\Hid (Ext w wx)) (fun x0_ _=>n-(intOf x0_).toNat)
 case atStart=>exact ⟨0,rfl,Nat.zero_le _,Hi31 (fun i hi=>absurd hi (Nat.not_lt_zero i)),Hi31 (Ext.refl w)⟩
 case round =>
  rename World=>w1
  obtain ⟨k,rfl,hkk,HGk,HH⟩:=hrel;have HX1:=Hi31 HH.out;clear HH;by_cases hlt:k<n
  ·have hlt2:(k:Int)<((n:Nat):Int):=by omega
   obtain ⟨la,rfl,zl_⟩:=HL.out k hlt;have HCl:=Hi31 zl_;clear zl_;by_cases hi:is k=true
   ·have HIS:=Hi31 hi;clear hi;have cl_k:=keepA HX1.out (HCl.out);go_wp2_with fail;refine ((HIS.out▸HCL.out _ HX1.out k hlt)).mono ?_;rintro e w2 ⟨rfl,e2⟩;have HX2:=Hi31 (HX1.out.trans e2);clear e2 cl_k;go_wp2;go_ret;exact ⟨by rw [fi_hit hlt HGk.out HIS.out];rfl,HX2.out⟩
   ·have HIS:Hid (is k=false):=Hi31 (by simpa using hi);clear hi;have cl_k:=keepA HX1.out (HCl.out);go_wp2_with fail;refine ((HIS.out▸HCL.out _ HX1.out k hlt)).mono ?_;rintro e w2 ⟨rfl,e2⟩;have HX2:=Hi31 (HX1.out.trans e2);clear e2 cl_k;go_wp2_with fail;go_roundw
    case rel=>exact ⟨k+1,by go_num,by omega,Hi31 (fi_step HGk.out HIS.out),Hi31 HX2.out⟩
    case measure=>simp [intOf];omega
  ·have hk2:k=n:=by omega
   have hge:¬ (k:Int)<((n:Nat):Int):=by omega
   go_wp2;go_ret;exact ⟨by rw [fi_miss (by rw [← hk2];exact HGk.out)];rfl,HX1.out⟩
theorem cf1_g (ao_:Option Addr) (n cap fn:Nat) (cp:Array Value) (a:Nat->Value) (is:Nat->Bool) (w:World) (hl:∀ i,i<n->∃ la,ao_=some la/\w.cell? (la.add i)=some (a i)) (hcl:∀ W,Ext w W->∀ k:Nat,k<n->Calls Tryz.prog fn (#[a k] ++ cp) W (Ret W (.bool (is k)))) (hn:n<=1000000) (hcf:∀ a_ W,(callFunc fn a_).run Tryz.prog W = .ok (.enter fn a_) W):Calls Tryz.prog 112 #[.slice ao_ n cap,.func (.func fn) #[] cp] w (Ret w (.bool (any_ is n))):=by
 have HL:=Hi31 hl;have HCL:=Hi31 hcl;clear hl hcl;go_enter Tryz.func112,Tryz.ntmps112;go_wp2_with fail;refine (ix1_g ao_ n cap fn cp a is w HL.out HCL.out hn hcf).mono ?_;rintro e w1 ⟨rfl,e1⟩;have HX1:Hid (Ext w w1):=Hi31 ((Ext.refl w).trans e1);clear e1;go_wp2;go_ret;exact ⟨by rw [← fi_any];rfl,HX1.out⟩
theorem grow_c (n:Nat) (w:World) (hn:n<=10000):Calls Tryz.prog 207 #[.slice none 0 0,.int .i64 (n:Int)] w fun e w'=>∃ a k c,e = .returned (.slice a k c)/\Ext w w'/\ArS w w' (.slice a k c) 0:=by
 have rt0:∀ G,RtV G 0:=fun G i hi=>absurd hi (Nat.not_lt_zero i)
 by_cases h0:n=0
 ·subst h0;go_enter Tryz.func207,Tryz.ntmps207;go_wp2;go_ret;exact ⟨_,_,_,rfl,Ext.refl _,by omega,fun _ => .int .i64 0,Osl.nil _ _ _ _ _,rt0 _⟩
 ·have hp:0<n:=by omega
  obtain ⟨i,hi,hz,hs,hb⟩:∃ i,Tryz.prog.info? 34=some i/\i.zero=some (.string ⟨#[]⟩)/\i.size=1/\i.bytes=16:=by
   cases h:Tryz.prog.info? 34 with
   | none=>have:=info_s;rw [h] at this;cases this
   | some i=>have:=info_s;rw [h] at this;simp only [Option.map_some,Option.some.injEq,Prod.mk.injEq] at this;exact ⟨i,rfl,this.1,this.2.1,this.2.2⟩
  obtain ⟨cap,hcap⟩:∃ cap,grownCap w n 0 34=cap:=⟨_,rfl⟩
  have hr:=Lib.run_append_nil_zeros (P:=Tryz.prog) w 30 3 30 34 i (.string ⟨#[]⟩) .i64 .i64 under_s (by kernel_rfl) hi hz n hp (by omega) (by omega) (by rw [hb];omega);rw [hcap] at hr;have hge:n<=cap:=hcap▸grownCap_ge w n 0 34;have hcm:cap<=maxLen:=hcap▸grownCap_le_maxLen w n 0 34 (by unfold maxLen;omega);have hx:Ext w (w.drew.alloc (.cells (Builtin.zeroCells (Value.string ⟨#[]⟩).cells n ++ Builtin.zeroCells (Value.string ⟨#[]⟩).cells (cap-n)) 34)):=(Ext.refl w).drew.alloc _;have ho:Osl w (w.drew.alloc (.cells (Builtin.zeroCells (Value.string ⟨#[]⟩).cells n ++ Builtin.zeroCells (Value.string ⟨#[]⟩).cells (cap-n)) 34)) 34 1 (.slice (some ⟨w.heap.size,0,none⟩) 0 cap) 0 (fun _ => .int .i64 0) :=
   Or.inr ⟨_,_,_,rfl,Nat.le_refl _,Blk.new _ _ _,Nat.zero_le _,hcm,by simp only [Array.size_append,size_zeroCells];show n*1+(cap-n)*1=cap*1;omega,fun i hi=>by omega⟩
  have HX:=Hi31 hx;have HO:=Hi31 ho;have hne:¬ (n:Int)<=0:=by omega
  have hlt:¬ (n:Int)<0:=by omega
  clear hx ho hcap;go_enter Tryz.func207,Tryz.ntmps207;go_wp2_with (at_builtin;refine Lib.wpList_append_run _ rfl _ _ _ _ rfl _ _ rfl rfl _ _ hr ?_);clear hr;go_wp2;go_ret;exact ⟨_,_,_,rfl,HX.out,by omega,_,HO.out,rt0 _⟩
theorem all_right {w X:World} {v:Value} {n:Nat} (g:Gd w) (h:ArS X w v n):Calls Tryz.prog 112 #[v,.func (.func 61) #[] #[]] w (Ret w (.bool false)):=by
 obtain ⟨hn,G,ho,hG⟩:=h;obtain ⟨ao,cap,rfl,_,_,hc⟩:=ho.rd;have:=cf1_g ao n cap 61 #[] G (fun _=>false) w hc (fun W e k hk=>by
  obtain ⟨s,e1,e2,e3⟩:=hG k hk;rw [e1];have h:=wrong_c s W (g.ext e) e3;rw [e2] at h;exact h) (by omega) (fun _ _=>by kernel_rfl)
 rwa [any_false.2 (fun _ _=>rfl)] at this
theorem concat_c (kq:Nat) (w:World) (o1:Option Addr) (m1 c1:Nat) (H1:Nat->Value) (o2:Option Addr) (m2 c2:Nat) (H2:Nat->Value) (o3:Option Addr) (m3 c3:Nat) (H3:Nat->Value) (bq:Blk w kq #[.slice o1 m1 c1,.slice o2 m2 c2,.slice o3 m3 c3] 30) (r1:Rd w (.slice o1 m1 c1) m1 H1) (t1:RtV H1 m1) (l1:m1<=1000) (r2:Rd w (.slice o2 m2 c2) m2 H2) (t2:RtV H2 m2) (l2:m2<=1000) (r3:Rd w (.slice o3 m3 c3) m3 H3) (t3:RtV H3 m3) (l3:m3<=1000):Calls Tryz.prog 129 #[.slice (some ⟨kq,0,none⟩) 3 3] w (ArP w):=by
 have HBq:=Hi31 bq;have HR1:=Hi31 r1;have HR2:=Hi31 r2;have HR3:=Hi31 r3;have HT1:=Hi31 t1;have HT2:=Hi31 t2;have HT3:=Hi31 t3;clear bq r1 r2 r3 t1 t2 t3;have z1:¬ (m1:Int)<0:=Int.not_lt.2 (Int.natCast_nonneg _);have z2:¬ (m1:Int)+(m2:Int)<0:=by omega
 have z3:¬ (m1:Int)+(m2:Int)+(m3:Int)<0:=by omega
 go_enter Tryz.func129,Tryz.ntmps129;go_wp2_with fail;refine wp_loop_rounds 4 ?_;rw [rounds_succ];have cq_0:=HBq.out.cell (0) rfl;go_wp2_with fail;rw [rounds_succ];clear cq_0;have cq_1:=HBq.out.cell (1) rfl;go_wp2_with fail;rw [rounds_succ];clear cq_1;have cq_2:=HBq.out.cell (2) rfl;go_wp2_with fail;rw [rounds_succ];clear cq_2;go_wp2_with fail;refine (grow_c (m1+m2+m3) _ (by omega)).mono ?_;rintro e w1 ⟨ga,gn,gc,rfl,e1,ha_⟩;have HX1:Hid (Ext w w1):=Hi31 ((Ext.refl w).trans e1);have HBq_1:=Hi31 (HBq.out.ext e1);clear e1;have HAR1:=Hi31 ha_;clear ha_;go_wp2_with fail;refine wp_loop_rounds 4 ?_;rw [rounds_succ];have cq_0:=HBq_1.out.cell (0) rfl;go_wp2_with (
  at_builtin;refine wpList_plain rfl fun K_ hK_=>op_append_ar (X:=w) (n:=0) (m:=m1) rfl rfl rfl HX1.out HAR1.out (HR1.out.ext HX1.out) HT1.out (by omega) (fun a2_ n2_ c2_ w2 ha_ hm_=>hK_ _ _ ?_)
  have HX2:Hid (Ext w w2):=Hi31 hm_.ext;have HBq_2:=Hi31 (hm_.blk HBq_1.out (HAR1.out.not HBq_1.out (by decide)));have HAR2:=Hi31 ha_;clear ha_ hm_ cq_0
 )
 rw [rounds_succ];have cq_1:=HBq_2.out.cell (1) rfl;go_wp2_with (
  at_builtin;refine wpList_plain rfl fun K_ hK_=>op_append_ar (X:=w) (n:=(0+m1)) (m:=m2) rfl rfl rfl HX2.out HAR2.out (HR2.out.ext HX2.out) HT2.out (by omega) (fun a3_ n3_ c3_ w3 ha_ hm_=>hK_ _ _ ?_)
  have HX3:Hid (Ext w w3):=Hi31 hm_.ext;have HBq_3:=Hi31 (hm_.blk HBq_2.out (HAR2.out.not HBq_2.out (by decide)));have HAR3:=Hi31 ha_;clear ha_ hm_ cq_1
 )
 rw [rounds_succ];have cq_2:=HBq_3.out.cell (2) rfl;go_wp2_with (
  at_builtin;refine wpList_plain rfl fun K_ hK_=>op_append_ar (X:=w) (n:=((0+m1)+m2)) (m:=m3) rfl rfl rfl HX3.out HAR3.out (HR3.out.ext HX3.out) HT3.out (by omega) (fun a4_ n4_ c4_ w4 ha_ hm_=>hK_ _ _ ?_)
  have HX4:Hid (Ext w w4):=Hi31 hm_.ext;have HAR4:=Hi31 ha_;clear ha_ hm_ cq_2
 )
 rw [rounds_succ];go_wp2;go_ret;exact ⟨_,_,rfl,HX4.out,HAR4.out,by omega⟩
theorem short_c (kd:Int) (val:ByteArray) (w:World) (g:Gd w) (o1:Option Addr) (m1 c1:Nat) (H1:Nat->Value) (o2:Option Addr) (m2 c2:Nat) (H2:Nat->Value) (o3:Option Addr) (m3 c3:Nat) (H3:Nat->Value) (r1:Rd w (.slice o1 m1 c1) m1 H1) (t1:RtV H1 m1) (l1:m1<=1000) (r2:Rd w (.slice o2 m2 c2) m2 H2) (t2:RtV H2 m2) (l2:m2<=1000) (r3:Rd w (.slice o3 m3 c3) m3 H3) (t3:RtV H3 m3) (l3:m3<=1000) (hv:kd=1->rq val=true) (hvs:val.size<=1000000):Calls Tryz.prog 49 #[.agg #[.int .i64 kd,.string val,.slice o1 m1 c1,.slice o2 m2 c2,.slice o3 m3 c3]] w (Ret w (.bool true)):=by
 have HG:=Hi31 g;have HR1:=Hi31 r1;have HR2:=Hi31 r2;have HR3:=Hi31 r3;have HT1:=Hi31 t1;have HT2:=Hi31 t2;have HT3:=Hi31 t3;clear g r1 r2 r3 t1 t2 t3;go_enter Tryz.func49,Tryz.ntmps49;go_wp2_with fail;refine (concat_c _ _ o1 m1 c1 H1 o2 m2 c2 H2 o3 m3 c3 H3 (Blk.nw (#[.slice o1 m1 c1,.slice o2 m2 c2,.slice o3 m3 c3]) 30) (HR1.out.ext (((Ext.refl w).alloc _).alloc _)) HT1.out l1 (HR2.out.ext (((Ext.refl w).alloc _).alloc _)) HT2.out l2 (HR3.out.ext (((Ext.refl w).alloc _).alloc _)) HT3.out l3).mono ?_;rintro e w1 ⟨v_,gk,rfl,e1,ha_,hgk⟩;have HX1:Hid (Ext w w1):=Hi31 ((((Ext.refl w).alloc _).alloc _).trans e1);have HB0_1:Hid (Blk w1 (w.heap.size) (#[.int .i64 kd,.string val,.slice o1 m1 c1,.slice o2 m2 c2,.slice o3 m3 c3]) 38):=Hi31 ((((Blk.nw (#[.int .i64 kd,.string val,.slice o1 m1 c1,.slice o2 m2 c2,.slice o3 m3 c3]) 38).alloc _)).ext e1);have HB1_1:Hid (Blk w1 (w.heap.size+1) (#[.slice o1 m1 c1,.slice o2 m2 c2,.slice o3 m3 c3]) 30):=Hi31 (((Blk.nw (#[.slice o1 m1 c1,.slice o2 m2 c2,.slice o3 m3 c3]) 30)).ext e1);have HGEB0:Hid (w.heap.size<=w.heap.size):=Hi31 (Nat.le_refl _);have HGEB1:Hid (w.heap.size<=w.heap.size+1):=Hi31 (by omega);clear e1;obtain ⟨ga,gn,gc,rfl⟩:=ha_.isl;have HAR1:=Hi31 (ha_.mono (((Ext.refl w).alloc _).alloc _));clear ha_;go_upto_region 2 with fail
 by_cases h1:kd=1
 ·have HV:=Hi31 (hv h1);clear hv;have c0_0:=HB0_1.out.cell 0 rfl;have c0_1:=HB0_1.out.cell 1 rfl;go_wp2_with (
   at_builtin;refine wpList_plain rfl fun K_ hK_=>op_append_ar (X:=w) (n:=gk) (m:=1) rfl rfl rfl (HX1.out.alloc _) (HAR1.out.ext (by first|exact (Ext.refl _).alloc _|exact Ext.refl _)) (Rd.blk (Blk.nw (#[.string val]) 34) (Nat.le_refl _) (by decide) (fun i hi=>by obtain rfl:i=0:=(by omega);rfl)) (rt1 HV.out hvs) (by omega) (fun a2_ n2_ c2_ w2 ha_ hm_=>hK_ _ _ ?_)
   have HX2:Hid (Ext w w2):=Hi31 hm_.ext;have HAR2:=Hi31 ha_;clear ha_ hm_ c0_0 c0_1
  )
  refine (all_right (HG.out.ext (HX2.out)) HAR2.out).mono ?_;rintro e w3 ⟨rfl,e3⟩;have HX3:=Hi31 (HX2.out.trans e3);clear e3;go_wp2;go_ret;exact ⟨rfl,HX3.out⟩
 ·have c0_0:=HB0_1.out.cell 0 rfl;go_wp2_with fail;refine (all_right (HG.out.ext (HX1.out)) HAR1.out).mono ?_;rintro e w2 ⟨rfl,e2⟩;have HX2:=Hi31 (HX1.out.trans e2);have HB0_2:=Hi31 (HB0_1.out.ext e2);clear e2 c0_0;go_wp2;go_ret;exact ⟨rfl,HX2.out⟩
noncomputable def lerr (t:Nat->ByteArray) (m k:Nat):Int:=if m≠k then 5 else if any_ (fun i=>!rq (t i)) m=true then 2 else 0
theorem cw_c {w:World} {v:Value} {m:Nat} {t:Nat->ByteArray} (g:Gd w) (h:Rs w v m t) (hl:∀ i,i<m->(t i).size<=1000000) (hm:m<=1000000):Calls Tryz.prog 112 #[v,.func (.func 61) #[] #[]] w (Ret w (.bool (any_ (fun i=>!rq (t i)) m))):=by
 obtain ⟨ao,cap,rfl,_,_,hc⟩:=h;exact cf1_g ao m cap 61 #[] (fun i => .string (t i)) (fun i=>!rq (t i)) w hc (fun W e k hk=>wrong_c (t k) W (g.ext e) (hl k hk)) hm (fun _ _=>by kernel_rfl)
theorem plist_go (ao_:Option Addr) (ac m k:Nat) (t:Nat->ByteArray) (w:World) (g:Gd w) (hr:Rs w (.slice ao_ m ac) m t) (hl:∀ i,i<m->(t i).size<=1000000) (hm:m<=1000000):Calls Tryz.prog 120 #[.slice ao_ m ac,.int .i64 (k:Int)] w (Ret w (.int .i64 (lerr t m k))):=by
 have HG:=Hi31 g;have HR:=Hi31 hr;have HL:=Hi31 hl;clear g hr hl;go_enter Tryz.func120,Tryz.ntmps120;by_cases h1:m≠k
 ·have h2:decide ((m:Int)=(k:Int))=false:=decide_eq_false (by omega);go_wp2;go_ret;exact ⟨by rw [lerr,if_pos h1];rfl,(Ext.refl w)⟩
 ·obtain rfl:m=k:=Classical.not_not.1 h1;by_cases h3:any_ (fun i=>!rq (t i)) m=true
  ·have HAN:=Hi31 h3;go_wp2_with fail;refine ((HAN.out▸cw_c (HG.out.ext ((Ext.refl w))) (HR.out.ext (Ext.refl w)) HL.out hm)).mono ?_;rintro e w1 ⟨rfl,e1⟩;have HX1:Hid (Ext w w1):=Hi31 ((Ext.refl w).trans e1);clear e1;go_wp2;go_ret;exact ⟨by rw [lerr,if_neg h1,if_pos h3];rfl,HX1.out⟩
  ·have h4:any_ (fun i=>!rq (t i)) m=false:=by simpa using h3
   have HAN:=Hi31 h4;go_wp2_with fail;refine ((HAN.out▸cw_c (HG.out.ext ((Ext.refl w))) (HR.out.ext (Ext.refl w)) HL.out hm)).mono ?_;rintro e w1 ⟨rfl,e1⟩;have HX1:Hid (Ext w w1):=Hi31 ((Ext.refl w).trans e1);clear e1;go_wp2;go_ret;exact ⟨by rw [lerr,if_neg h1,if_neg h3];rfl,HX1.out⟩
theorem plist_c {w:World} {v:Value} {m k:Nat} {t:Nat->ByteArray} (g:Gd w) (h:Rs w v m t) (hl:∀ i,i<m->(t i).size<=1000000) (hm:m<=1000000):Calls Tryz.prog 120 #[v,.int .i64 (k:Int)] w (Ret w (.int .i64 (lerr t m k))):=by
 have h0:=h;obtain ⟨ao,cap,rfl,_⟩:=h;exact plist_go ao cap m k t w g h0 hl hm
theorem QB.sz {q:Nat} {x:Rat} (h:QB q x) (hq:q<=200):(qs x).size<=1000000:=h.len (by omega)
theorem plist_ok {w:World} {v:Value} {n:Nat} {a:Nat->Rat} (h:Rq w v n a) (g:Gd w) (hq:∀ i,i<n->QB 200 (a i)) (hn:n<=60):Calls Tryz.prog 120 #[v,.int .i64 (n:Int)] w (Ret w (.int .i64 0)):=by
 have:=plist_c (k:=n) (t:=fun i=>qs (a i)) g h (fun i hi=>(hq i hi).sz (Nat.le_refl _)) (by omega);rwa [lerr,if_neg (fun h=>h rfl),if_neg (by rw [Bool.not_eq_true,any_false];intro i hi;simp [rq_qs (hq i hi)])] at this
theorem wrong_no (x:Rat) (w:World) (g:Gd w) (h:QB 200 x):Calls Tryz.prog 61 #[.string (qs x)] w (Ret w (.bool false)):=by
 have:=wrong_c (qs x) w g (h.sz (Nat.le_refl _));rwa [rq_qs h] at this
structure PQ (P:LP):Prop where
 A:∀ i,i<P.m->∀ k,k<P.n->QB 200 (P.A i k)
 B:∀ i,i<P.m->QB 200 (P.B i)
 C:∀ k,k<P.n->QB 200 (P.C k)
theorem check_go (P:LP) (vr0 vc:Value) (va:Nat->Value) (w:World) (g:Gd w) (hP:PM P w vr0 vc va) (Q:PQ P) (hn:P.n<=60) (hm:P.m<=300):Calls Tryz.prog 47 #[.agg #[.int .i64 (P.n:Int),vr0,vc]] w (Ret w (.int .i64 0)):=by
 have HG:=Hi31 g;clear g;have HPO:=Hi31 hP.obj;have HPF:=Hi31 hP.fac;have HQA:=Hi31 Q.A;have HQB:=Hi31 Q.B;have HQC:=Hi31 Q.C;clear Q;obtain ⟨ro,rcap,rfl,_,_,hrr⟩:=hP.rows;have HRR:=Hi31 hrr;clear hrr hP;have z1:¬ (P.n:Int)<0:=Int.not_lt.2 (Int.natCast_nonneg _);have z2:¬ (60:Int)<(P.n:Int):=by omega
 have z3:¬ (300:Int)<(P.m:Int):=by omega
 go_enter Tryz.func47,Tryz.ntmps47;go_wp2_with fail;refine (plist_ok (HPO.out.ext ((Ext.refl w).alloc _)) (HG.out.ext (((Ext.refl w).alloc _))) HQC.out hn).mono ?_;rintro e w1 ⟨rfl,e1⟩;have HX1:Hid (Ext w w1):=Hi31 (((Ext.refl w).alloc _).trans e1);have HB0_1:Hid (Blk w1 (w.heap.size) (#[.int .i64 (P.n:Int),.slice ro P.m rcap,vc]) 32):=Hi31 (((Blk.nw (#[.int .i64 (P.n:Int),.slice ro P.m rcap,vc]) 32)).ext e1);have HGEB0:Hid (w.heap.size<=w.heap.size):=Hi31 (Nat.le_refl _);clear e1;have c0_1:=HB0_1.out.cell 1 rfl;go_wp2_with fail;clear c0_1;go_loopw [32] (fun x0_ wx=>∃ k:Nat,x0_ = .int .i64 k/\k<=P.m/\Hid (Ext w wx/\Blk wx (w.heap.size) (#[.int .i64 (P.n:Int),.slice ro P.m rcap,vc]) 32)) (fun x0_ _=>P.m-(intOf x0_).toNat)
 case atStart=>exact ⟨0,rfl,Nat.zero_le _,Hi31 ⟨HX1.out,HB0_1.out⟩⟩
 case round =>
  rename World=>w2
  obtain ⟨k,rfl,hkk,HH⟩:=hrel;have HX2:=Hi31 HH.out.1;have HB0_2:=Hi31 HH.out.2;clear HH;by_cases hlt:k<P.m
  ·have hlt2:(k:Int)<((P.m:Nat):Int):=by omega
   obtain ⟨ra,o_,rfl,zr_,zs_⟩:=HRR.out k hlt;obtain ⟨fo,fcap,ef_,_⟩:=HPF.out k hlt;rw [ef_] at zr_;have HFK:=Hi31 (ef_▸HPF.out k hlt);have HCr:=Hi31 zr_;have HCs:=Hi31 zs_;clear zr_ zs_ ef_;have cr_o____k___2:=keepA HX2.out (HCr.out);have cr_o____k___2___1:=keepA HX2.out (HCs.out);go_upto_region 11 with fail
   refine wp_name (fun W=>Ext w W/\Blk W (w.heap.size) (#[.int .i64 (P.n:Int),.slice (some ⟨ra,o_,none⟩) P.m rcap,vc]) 32/\Blk W (w2.heap.size) (#[.slice fo P.n fcap,.string (qs (P.B k))]) 97) ⟨(HX2.out.alloc _),(HB0_2.out.alloc _),(Blk.nw (#[.slice fo P.n fcap,.string (qs (P.B k))]) 97)⟩ ?_;rintro w3 ⟨e3,bB0_3,bB1_3⟩;have HX3:=Hi31 e3;have HB0_3:=Hi31 bB0_3;have HB1_3:=Hi31 bB1_3;have HGEB1:Hid (w.heap.size<=w2.heap.size):=Hi31 (HX2.out.size);clear e3 bB0_3 bB1_3 cr_o____k___2 cr_o____k___2___1;have c1_0:=HB1_3.out.cell 0 rfl;have c0_0:=HB0_3.out.cell 0 rfl;go_wp2_with fail;refine (plist_ok (HFK.out.ext HX3.out) (HG.out.ext (HX3.out)) (HQA.out k hlt) hn).mono ?_;rintro e w4 ⟨rfl,e4⟩;have HX4:=Hi31 (HX3.out.trans e4);have HB0_4:=Hi31 (HB0_3.out.ext e4);have HB1_4:=Hi31 (HB1_3.out.ext e4);clear e4 c1_0 c0_0;have c1_1:=HB1_4.out.cell 1 rfl;go_wp2_with fail;refine (wrong_no (P.B k) _ (HG.out.ext (HX4.out)) (HQB.out k hlt)).mono ?_;rintro e w5 ⟨rfl,e5⟩;have HX5:=Hi31 (HX4.out.trans e5);have HB0_5:=Hi31 (HB0_4.out.ext e5);clear e5 c1_1;go_wp2_with fail;go_roundw
   case rel=>exact ⟨k+1,by go_num,by omega,Hi31 ⟨HX5.out,HB0_5.out⟩⟩
   case measure=>simp [intOf];omega
  ·have hk2:k=P.m:=by omega
   have hge:¬ (k:Int)<((P.m:Nat):Int):=by omega
   go_wp2;go_ret;exact ⟨rfl,HX2.out⟩
structure Fr (X W:World):Prop where
 out:Ext X W
theorem Fr.refl (X:World):Fr X X:=⟨Ext.refl X⟩
theorem Fr.ext {X W W':World} (h:Fr X W) (e:Ext W W'):Fr X W':=⟨h.out.trans e⟩
theorem Fr.alloc {X W:World} (h:Fr X W) (o:Obj):Fr X (W.alloc o):=⟨h.out.alloc o⟩
theorem Fr.drew {X W:World} (h:Fr X W):Fr X W.drew:=⟨h.out.drew⟩
theorem Fr.other {X W:World} (h:Fr X W) {a:Addr} (u:Value) (hk:X.heap.size<=a.block):Fr X (W.setCell a u):=⟨h.out.setCell hk u⟩
theorem pm_obj {P:LP} {w:World} {vr vc vz:Value} {va:Nat->Value} {C:Nat->Rat} (h:PM P w vr vc va) (hz:Rq w vz P.n C):PM { P with C:=C } w vr vz va:=⟨h.rows,h.fac,hz⟩
theorem unit_row {n k:Nat} {s:Rat} {bs:ByteArray} {C:Array Value} (hs:qs s=bs) (h:∀ j,j<n->C[j]?=some (.string ⟨#[48]⟩)):∀ j,j<n->(C.setIfInBounds k (.string bs))[j]?=some (.string (qs ((fun j=>if j=k then s else 0) j))) :=
 cell_upd (f:=fun _ => .string ⟨#[48]⟩) h (fun _=>by simp only [if_true];rw [hs]) (fun j _ hj=>by simp only [if_neg hj];rw [qs_zero])
section
variable {P:LP} {q:Nat} {X Y w w':World} {v:Value}
theorem SolV.map (h:SolV P q X w v) (f:∀ v n g,Nrow X w v n g->Nrow Y w' v n g):SolV P q Y w' v:=by
 rcases h with ⟨val,x,y,vp,vd,h1,h2,h3,h4,h5,h6,h7⟩|⟨y,vd,h1,h2,h3,h4⟩|⟨x,d,vp,vd,h1,h2,h3,h4,h5,h6⟩
 ·exact Or.inl ⟨val,x,y,vp,vd,h1,h2,h3,h4,h5,f _ _ _ h6,f _ _ _ h7⟩
 ·exact Or.inr (Or.inl ⟨y,vd,h1,h2,h3,f _ _ _ h4⟩)
 ·exact Or.inr (Or.inr ⟨x,d,vp,vd,h1,h2,h3,h4,f _ _ _ h5,f _ _ _ h6⟩)
theorem SolV.ext (h:SolV P q X w v) (e:Ext w w'):SolV P q X w' v:=h.map fun _ _ _ r=>r.ext e
theorem SolV.alloc (h:SolV P q X w v) (o:Obj):SolV P q X (w.alloc o) v:=h.ext ((Ext.refl _).alloc o)
theorem SolV.drew (h:SolV P q X w v):SolV P q X w.drew v:=h.ext (Ext.refl _).drew
theorem fm_lt {b:Nat} (h:b<X.heap.size):∀ i,X.heap.size<=i->i≠b:=fun i hi e=>by omega
theorem SolV.other (h:SolV P q X w v) {a:Addr} (u:Value) (hk:∀ i,X.heap.size<=i->i≠a.block):SolV P q X (w.setCell a u) v:=h.map fun _ _ _ ⟨k,C,e,l,b,c⟩=>⟨k,C,e,l,b.other u (hk k l),c⟩
theorem SolV.mv {S:Nat->Prop} {Z:World} (h:SolV P q X w v) (m:Mv Z w S w') (hs:∀ k,X.heap.size<=k->¬ S k):SolV P q X w' v:=h.map fun _ _ _ ⟨k,C,e,l,b,c⟩=>⟨k,C,e,l,m.blk b (hs k l),c⟩
theorem Blk.cast {W:World} {b:Nat} {cs cs':Array Value} {t:TypeId} (h:Blk W b cs t) (e:cs=cs'):Blk W b cs' t:=e▸h
theorem SolV.mono (h:SolV P q X w v) (e:Ext Y X):SolV P q Y w v:=h.map fun _ _ _ r=>r.mono e
theorem Nrow.isl {n:Nat} {g:Nat->Value} (h:Nrow X w v n g):∃ a c,v = .slice a n c:=let ⟨_,_,e,_⟩:=h;⟨_,_,e⟩
theorem Rd.isl {n:Nat} {g:Nat->Value} (h:Rd w v n g):∃ a c,v = .slice a n c:=let ⟨a,c,e,_⟩:=h;⟨a,c,e⟩
theorem SolV.shape (h:SolV P q X w v):∃ kd vl a m c d n f g h k,v = .agg #[.int .i64 kd,.string vl,.slice a m c,.slice d n f,.slice g h k]:=by
 rcases h with ⟨val,x,y,vp,vd,rfl,h2,h3,h4,h5,h6,h7⟩|⟨y,vd,rfl,h2,h3,h4⟩|⟨x,d,vp,vd,rfl,h2,h3,h4,h5,h6⟩
 ·obtain ⟨a,c,rfl⟩:=h6.isl;obtain ⟨a',c',rfl⟩:=h7.isl;exact ⟨_,_,_,_,_,_,_,_,_,_,_,rfl⟩
 ·obtain ⟨a,c,rfl⟩:=h4.isl;exact ⟨_,_,_,_,_,_,_,_,_,_,_,rfl⟩
 ·obtain ⟨a,c,rfl⟩:=h5.isl;obtain ⟨a',c',rfl⟩:=h6.isl;exact ⟨_,_,_,_,_,_,_,_,_,_,_,rfl⟩
theorem SolV.kind {kd:Int} {vl:ByteArray} {u1 u2 u3:Value} (h:SolV P q X w (.agg #[.int .i64 kd,.string vl,u1,u2,u3])) :
    (kd=1/\∃ val x y,vl=qs val/\Best P val x y/\QB q val/\((∀ j,j<P.n->QB q (x j))/\Nq X w u1 P.n x)/\((∀ i,i<P.m->QB q (y i))/\Nq X w u2 P.m y)/\u3 = .slice none 0 0) ∨
    (kd=2/\vl=⟨#[]⟩/\∃ y,Refutes P y/\((∀ i,i<P.m->QB q (y i))/\Nq X w u2 P.m y)/\u1 = .slice none 0 0/\u3 = .slice none 0 0) ∨
    (kd=3/\vl=⟨#[]⟩/\∃ x d,Falls P x d/\((∀ j,j<P.n->QB q (x j))/\Nq X w u1 P.n x)/\((∀ j,j<P.n->QB q (d j))/\Nq X w u3 P.n d)/\u2 = .slice none 0 0):=by
 rcases h with ⟨val,x,y,vp,vd,e,h2,h3,h4,h5,h6,h7⟩|⟨y,vd,e,h2,h3,h4⟩|⟨x,d,vp,vd,e,h2,h3,h4,h5,h6⟩ <;> simp only [Value.agg.injEq,Array.mk.injEq,List.cons.injEq,Value.int.injEq,Value.string.injEq,true_and,and_true] at e <;> obtain ⟨rfl,rfl,rfl,rfl,rfl⟩:=e
 ·exact Or.inl ⟨rfl,val,x,y,rfl,h2,h3,⟨h4,h6⟩,⟨h5,h7⟩,rfl⟩
 ·exact Or.inr (Or.inl ⟨rfl,rfl,y,h2,⟨h3,h4⟩,rfl,rfl⟩)
 ·exact Or.inr (Or.inr ⟨rfl,rfl,x,d,h2,⟨h3,h5⟩,⟨h4,h6⟩,rfl⟩)
theorem SolV.kds {kd:Int} {vl:ByteArray} {u1 u2 u3:Value} (h:SolV P q X w (.agg #[.int .i64 kd,.string vl,u1,u2,u3])):kd=1∨kd=2∨kd=3:=h.kind.imp (·.1) (Or.imp (·.1) (·.1))
theorem SolV.best {vl:ByteArray} {u1 u2 u3:Value} (h:SolV P q X w (.agg #[.int .i64 1,.string vl,u1,u2,u3])):∃ val x y,vl=qs val/\Best P val x y/\QB q val/\((∀ j,j<P.n->QB q (x j))/\Nq X w u1 P.n x)/\((∀ i,i<P.m->QB q (y i))/\Nq X w u2 P.m y)/\u3 = .slice none 0 0:=by
 rcases h.kind with h|h|h
 ·exact h.2
 ·exact absurd h.1 (by decide)
 ·exact absurd h.1 (by decide)
theorem SolV.inf {vl:ByteArray} {u1 u2 u3:Value} (h:SolV P q X w (.agg #[.int .i64 2,.string vl,u1,u2,u3])):vl=⟨#[]⟩/\∃ y,Refutes P y/\((∀ i,i<P.m->QB q (y i))/\Nq X w u2 P.m y)/\u1 = .slice none 0 0/\u3 = .slice none 0 0:=by
 rcases h.kind with h|h|h
 ·exact absurd h.1 (by decide)
 ·exact h.2
 ·exact absurd h.1 (by decide)
theorem SolV.fall {vl:ByteArray} {u1 u2 u3:Value} (h:SolV P q X w (.agg #[.int .i64 3,.string vl,u1,u2,u3])):vl=⟨#[]⟩/\∃ x d,Falls P x d/\((∀ j,j<P.n->QB q (x j))/\Nq X w u1 P.n x)/\((∀ j,j<P.n->QB q (d j))/\Nq X w u3 P.n d)/\u2 = .slice none 0 0:=by
 rcases h.kind with h|h|h
 ·exact absurd h.1 (by decide)
 ·exact absurd h.1 (by decide)
 ·exact h.2
theorem rtq {n:Nat} {x:Nat->Rat} (h:∀ j,j<n->QB q (x j)) (hq:q<=200):RtV (fun j => .string (qs (x j))) n:=fun j hj=>⟨_,rfl,rq_qs ((h j hj).mono hq),(h j hj).sz hq⟩
theorem rt0 {g:Nat->Value}:RtV g 0:=fun i hi=>absurd hi (Nat.not_lt_zero i)
theorem short_sol (g:Gd w) (h:SolV P q X w v) (hq2:q<=200) (hn:P.n<=1000) (hm:P.m<=1000):Calls Tryz.prog 49 #[v] w (Ret w (.bool true)):=by
 have nl:∀ g,Rd w (.slice none 0 0) 0 g:=fun g=>Rd.nil w g
 rcases h with ⟨val,x,y,vp,vd,rfl,h2,h3,h4,h5,h6,h7⟩|⟨y,vd,rfl,h2,h3,h4⟩|⟨x,d,vp,vd,rfl,h2,h3,h4,h5,h6⟩
 ·obtain ⟨a,c,rfl⟩:=h6.isl;obtain ⟨a',c',rfl⟩:=h7.isl;exact short_c 1 (qs val) w g _ _ _ _ _ _ _ _ _ _ _ _ (h6.rd (cap_le hn)) (rtq h4 hq2) hn (h7.rd (cap_le hm)) (rtq h5 hq2) hm (nl fun _ => .int .i64 0) rt0 (Nat.zero_le _) (fun _=>rq_qs (h3.mono hq2)) (h3.sz hq2)
 ·obtain ⟨a,c,rfl⟩:=h4.isl;exact short_c 2 ⟨#[]⟩ w g _ _ _ _ _ _ _ _ _ _ _ _ (nl fun _ => .int .i64 0) rt0 (Nat.zero_le _) (h4.rd (cap_le hm)) (rtq h3 hq2) hm (nl fun _ => .int .i64 0) rt0 (Nat.zero_le _) (fun h=>absurd h (by decide)) (by decide)
 ·obtain ⟨a,c,rfl⟩:=h5.isl;obtain ⟨a',c',rfl⟩:=h6.isl;exact short_c 3 ⟨#[]⟩ w g _ _ _ _ _ _ _ _ _ _ _ _ (h5.rd (cap_le hn)) (rtq h3 hq2) hn (nl fun _ => .int .i64 0) rt0 (Nat.zero_le _) (h6.rd (cap_le hn)) (rtq h4 hq2) hn (fun h=>absurd h (by decide)) (by decide)
end
def MinzP (P:LP) (q:Nat) (w:World) (e:Ending) (w':World):Prop:=∃ v,e = .returned (.tuple #[v,.int .i64 0])/\Ext w w'/\SolV P q w w' v
theorem pmin_c (P:LP) (vr vc:Value) (va:Nat->Value) (q:Nat) (w:World) (g:Gd w) (hP:PM P w vr vc va) (SZ:Szd P q) (Q:PQ P) (hn:P.n<=60) (hm:P.m<=300) (hq1:1<=q) (hq2:q<=200) (qa:∀ i,i<P.m->∀ j,j<P.n->QB q (P.A i j)):Calls Tryz.prog 15 #[.agg #[.int .i64 (P.n:Int),vr,vc]] w (MinzP P q w):=by
 have HG:=Hi31 g;have HPM:=Hi31 hP;have HQA:=Hi31 qa;have HQP:=Hi31 Q;clear g hP qa Q;obtain ⟨ro,rcap,er_,_⟩:=HPM.out.rows;obtain ⟨co,ccap,ec_,_⟩:=HPM.out.obj;subst er_ ec_;go_enter Tryz.func15,Tryz.ntmps15;go_wp2_with fail;refine (check_go P _ _ va _ (HG.out.ext ((((Ext.refl w).alloc _).alloc _))) (HPM.out.ext (((Ext.refl w).alloc _).alloc _)) HQP.out hn hm).mono ?_;rintro e w1 ⟨rfl,e1⟩;have HX1:Hid (Ext w w1):=Hi31 ((((Ext.refl w).alloc _).alloc _).trans e1);have HB0_1:Hid (Blk w1 (w.heap.size) (#[.int .i64 (P.n:Int),.slice ro P.m rcap,.slice co P.n ccap]) 32):=Hi31 ((((Blk.nw (#[.int .i64 (P.n:Int),.slice ro P.m rcap,.slice co P.n ccap]) 32).alloc _)).ext e1);have HB1_1:Hid (Blk w1 (w.heap.size+1) (#[.int .i64 0,.string ⟨#[]⟩,.slice none 0 0,.slice none 0 0,.slice none 0 0]) 38):=Hi31 (((Blk.nw (#[.int .i64 0,.string ⟨#[]⟩,.slice none 0 0,.slice none 0 0,.slice none 0 0]) 38)).ext e1);have HGEB0:Hid (w.heap.size<=w.heap.size):=Hi31 (Nat.le_refl _);have HGEB1:Hid (w.heap.size<=w.heap.size+1):=Hi31 (by omega);clear e1;have c0_0:=HB0_1.out.cell 0 rfl;have c0_1:=HB0_1.out.cell 1 rfl;have c0_2:=HB0_1.out.cell 2 rfl;go_wp2_with fail;refine (solve_c P _ _ va q _ (HG.out.ext (HX1.out)) (HPM.out.ext HX1.out) SZ (by have:=hn;show P.n<=1000;omega) (by have:=hm;show P.m<=1000;omega) hq1 (by omega) HQA.out).mono ?_;rintro e w2 ⟨v_,rfl,e2,sv_⟩;have HX2:=Hi31 (HX1.out.trans e2);have HB1_2:=Hi31 (HB1_1.out.ext e2);clear e2 c0_0 c0_1 c0_2;obtain ⟨kd1,vl1,a1_,m1_,c1_,d1_,n1_,f1_,g1_,h1_,k1_,rfl⟩:=sv_.shape;have HSV1_2:=Hi31 sv_;clear sv_;go_upto_region 5 with fail
 refine wp_name (fun W=>Ext w W/\Blk W (w.heap.size+1) (#[.int .i64 0,.string ⟨#[]⟩,.slice none 0 0,.slice none 0 0,.slice none 0 0]) 38/\SolV P q w1 W (.agg #[.int .i64 kd1,.string vl1,.slice a1_ m1_ c1_,.slice d1_ n1_ f1_,.slice g1_ h1_ k1_])/\Blk W (w2.heap.size) (#[.int .i64 kd1,.string vl1,.slice a1_ m1_ c1_,.slice d1_ n1_ f1_,.slice g1_ h1_ k1_]) 38) ⟨(HX2.out.alloc _),(HB1_2.out.alloc _),(HSV1_2.out.alloc _),(Blk.nw (#[.int .i64 kd1,.string vl1,.slice a1_ m1_ c1_,.slice d1_ n1_ f1_,.slice g1_ h1_ k1_]) 38)⟩ ?_;rintro w3 ⟨e3,bB1_3,bSV1_3,bB2_3⟩;have HX3:=Hi31 e3;have HB1_3:=Hi31 bB1_3;have HSV1_3:=Hi31 bSV1_3;have HB2_3:=Hi31 bB2_3;have HGEB2:Hid (w.heap.size<=w2.heap.size):=Hi31 (HX2.out.size);clear e3 bB1_3 bSV1_3 bB2_3;have c2_0:=HB2_3.out.cell 0 rfl;have c2_1:=HB2_3.out.cell 1 rfl;have c2_2:=HB2_3.out.cell 2 rfl;have c2_3:=HB2_3.out.cell 3 rfl;have c2_4:=HB2_3.out.cell 4 rfl;go_wp2_with fail;refine (short_sol (HG.out.ext (HX3.out)) (HSV1_3.out) hq2 (by show P.n<=1000;omega) (by show P.m<=1000;omega)).mono ?_;rintro e w4 ⟨rfl,e4⟩;have HX4:=Hi31 (HX3.out.trans e4);have HB1_4:=Hi31 (HB1_3.out.ext e4);have HSV1_4:=Hi31 (HSV1_3.out.ext e4);have HB2_4:=Hi31 (HB2_3.out.ext e4);clear e4 c2_0 c2_1 c2_2 c2_3 c2_4;have c2_0:=HB2_4.out.cell 0 rfl;have c2_1:=HB2_4.out.cell 1 rfl;have c2_2:=HB2_4.out.cell 2 rfl;have c2_3:=HB2_4.out.cell 3 rfl;have c2_4:=HB2_4.out.cell 4 rfl;have c1_0:=HB1_4.out.cell 0 rfl;have f1_0:=HB1_4.out.free 0;have c1_1:=HB1_4.out.cell 1 rfl;have f1_1:=HB1_4.out.free 1;have c1_2:=HB1_4.out.cell 2 rfl;have f1_2:=HB1_4.out.free 2;have c1_3:=HB1_4.out.cell 3 rfl;have f1_3:=HB1_4.out.free 3;have c1_4:=HB1_4.out.cell 4 rfl;have f1_4:=HB1_4.out.free 4;go_wp2_with fail;refine wp_name (fun W=>Ext w W/\Blk W (w.heap.size+1) (#[.int .i64 kd1,.string vl1,.slice a1_ m1_ c1_,.slice d1_ n1_ f1_,.slice g1_ h1_ k1_]) 38/\SolV P q w1 W (.agg #[.int .i64 kd1,.string vl1,.slice a1_ m1_ c1_,.slice d1_ n1_ f1_,.slice g1_ h1_ k1_])) ⟨(((((HX4.out.setCell (HGEB1.out) _).setCell (HGEB1.out) _).setCell (HGEB1.out) _).setCell (HGEB1.out) _).setCell (HGEB1.out) _),(((((HB1_4.out.set 0 (.int .i64 kd1)).set 1 (.string vl1)).set 2 (.slice a1_ m1_ c1_)).set 3 (.slice d1_ n1_ f1_)).set 4 (.slice g1_ h1_ k1_)),(((((HSV1_4.out.other (a:=⟨w.heap.size+1,0,none⟩) _ ((fm_lt HB1_1.out.lt))).other (a:=⟨w.heap.size+1,1,none⟩) _ ((fm_lt HB1_1.out.lt))).other (a:=⟨w.heap.size+1,2,none⟩) _ ((fm_lt HB1_1.out.lt))).other (a:=⟨w.heap.size+1,3,none⟩) _ ((fm_lt HB1_1.out.lt))).other (a:=⟨w.heap.size+1,4,none⟩) _ ((fm_lt HB1_1.out.lt)))⟩ ?_;rintro w5 ⟨e5,bB1_5,bSV1_5⟩;have HX5:=Hi31 e5;have HB1_5:=Hi31 bB1_5;have HSV1_5:=Hi31 bSV1_5;clear e5 bB1_5 bSV1_5 c2_0 c2_1 c2_2 c2_3 c2_4 c1_0 f1_0 c1_1 f1_1 c1_2 f1_2 c1_3 f1_3 c1_4 f1_4;have gB1_0:=HB1_5.out.cell 0 rfl;have gB1_1:=HB1_5.out.cell 1 rfl;have gB1_2:=HB1_5.out.cell 2 rfl;have gB1_3:=HB1_5.out.cell 3 rfl;have gB1_4:=HB1_5.out.cell 4 rfl;refine bodyPost_ret (v:=.tuple #[.agg #[.int .i64 kd1,.string vl1,.slice a1_ m1_ c1_,.slice d1_ n1_ f1_,.slice g1_ h1_ k1_],.int .i64 0]) (by simp [results,Tryz.results15,go_sem,gB1_0,gB1_1,gB1_2,gB1_3,gB1_4]) rfl ⟨_,rfl,HX5.out,HSV1_5.out.mono HX1.out⟩
def OptV (P:LP) (v:Rat):Prop:=∃ x y,Best P v x y
def FallV (P:LP):Prop:=∃ x d,Falls P x d
section
variable {P:LP} {q:Nat} {X w:World} {vl:ByteArray} {u1 u2 u3:Value}
theorem SolV.opt (h:SolV P q X w (.agg #[.int .i64 1,.string vl,u1,u2,u3])):∃ z,OptV P z/\QB q z/\vl=qs z:=by
 obtain ⟨val,x,y,e,hb,hq,_⟩:=h.best;exact ⟨val,⟨x,y,hb⟩,hq,e⟩
theorem SolV.falls (h:SolV P q X w (.agg #[.int .i64 3,.string vl,u1,u2,u3])):FallV P:=by
 obtain ⟨_,x,d,hd,_⟩:=h.fall;exact ⟨x,d,hd⟩
theorem SolV.refs {C:Nat->Rat} (h:SolV { P with C:=C } q X w (.agg #[.int .i64 2,.string vl,u1,u2,u3])):∃ y,Refutes P y:=by
 obtain ⟨_,y,hb,_⟩:=h.inf;exact ⟨y,hb.pos,hb.comb,hb.neg⟩
end
abbrev LP.unit (P:LP) (k:Nat) (s:Rat):LP:={ P with C:=fun j=>if j=k then s else 0 }
def RangP (P:LP) (k q:Nat) (w:World) (e:Ending) (w':World):Prop:=Ext w w' /\
 ((e = .returned (.tuple #[.string ⟨#[]⟩,.string ⟨#[]⟩,.int .i64 22])/\∃ y,Refutes P y) ∨
  ∃ lo hi,e = .returned (.tuple #[.string lo,.string hi,.int .i64 0]) /\
   ((∃ z,OptV (P.unit k 1) z/\QB q z/\lo=qs z)∨(FallV (P.unit k 1)/\lo=⟨#[]⟩)) /\
   ((∃ z,OptV (P.unit k (-1)) z/\QB q z/\hi=qs (-z))∨(FallV (P.unit k (-1))/\hi=⟨#[]⟩)))
theorem prange_c (P:LP) (vr vc:Value) (va:Nat->Value) (q:Nat) (w:World) (g:Gd w) (hP:PM P w vr vc va) (k:Nat) (hk:k<P.n) (SZ1:Szd { P with C:=fun j=>if j=k then (1:Rat) else 0 } q) (SZ2:Szd { P with C:=fun j=>if j=k then (-1:Rat) else 0 } q) (Q:PQ P) (hn:P.n<=60) (hm:P.m<=300) (hq1:1<=q) (hq2:q<=200) (qa:∀ i,i<P.m->∀ j,j<P.n->QB q (P.A i j)):Calls Tryz.prog 19 #[.agg #[.int .i64 (P.n:Int),vr,vc],.int .i64 (k:Int)] w (RangP P k q w):=by
 have HSZ1:=Hi31 SZ1;have HSZ2:=Hi31 SZ2;have HG:=Hi31 g;have HPM:=Hi31 hP;have HQA:=Hi31 qa;have HQP:=Hi31 Q;clear SZ1 SZ2 g hP qa Q;have hk0:¬ ((k:Int)<0):=by omega
 have hk1:¬ ((P.n:Int)<=(k:Int)):=by omega
 obtain ⟨ro,rcap,er_,_⟩:=HPM.out.rows;obtain ⟨co,ccap,ec_,_⟩:=HPM.out.obj;subst er_ ec_;go_enter Tryz.func19,Tryz.ntmps19;go_wp2_with fail;refine (check_go P _ _ va _ (HG.out.ext (((Ext.refl w).alloc _))) (HPM.out.ext ((Ext.refl w).alloc _)) HQP.out hn hm).mono ?_;rintro e w1 ⟨rfl,e1⟩;have HX1:Hid (Ext w w1):=Hi31 (((Ext.refl w).alloc _).trans e1);have HB0_1:Hid (Blk w1 (w.heap.size) (#[.int .i64 (P.n:Int),.slice ro P.m rcap,.slice co P.n ccap]) 32):=Hi31 (((Blk.nw (#[.int .i64 (P.n:Int),.slice ro P.m rcap,.slice co P.n ccap]) 32)).ext e1);have HGEB0:Hid (w.heap.size<=w.heap.size):=Hi31 (Nat.le_refl _);clear e1;have c0_0:=HB0_1.out.cell 0 rfl;go_wp2_with fail;refine wp_loop_rounds 3 ?_;rw [rounds_succ];clear c0_0;go_upto_region 8 with fail
 refine wp_name (fun W=>Ext w W/\Blk W (w.heap.size) (#[.int .i64 (P.n:Int),.slice ro P.m rcap,.slice co P.n ccap]) 32/\Blk W (w1.heap.size) (#[.string ⟨#[49]⟩,.string ⟨#[45,49]⟩]) 34) ⟨(HX1.out.alloc _),(HB0_1.out.alloc _),(Blk.nw (#[.string ⟨#[49]⟩,.string ⟨#[45,49]⟩]) 34)⟩ ?_;rintro w2 ⟨e2,bB0_2,bB1_2⟩;have HX2:=Hi31 e2;have HB0_2:=Hi31 bB0_2;have HB1_2:=Hi31 bB1_2;have HGEB1:Hid (w.heap.size<=w1.heap.size):=Hi31 (HX1.out.size);clear e2 bB0_2 bB1_2;have c1_0:=HB1_2.out.cell 0 rfl;have c0_0:=HB0_2.out.cell 0 rfl;go_wp2_with fail;refine (zeros_c P.n (by omega) _).mono ?_;rintro e w3 ⟨kz1,CZ1,rfl,e3,g_,b_,c_⟩;have HNB0Bz1:Hid (w.heap.size≠kz1):=Hi31 (Nat.ne_of_lt (Nat.lt_of_lt_of_le HB0_2.out.lt g_));have HNB1Bz1:Hid (w1.heap.size≠kz1):=Hi31 (Nat.ne_of_lt (Nat.lt_of_lt_of_le HB1_2.out.lt g_));have HGEBz1:Hid (w.heap.size<=kz1):=Hi31 (Nat.le_trans HX2.out.size g_);have HX3:=Hi31 (HX2.out.trans e3);have HB0_3:=Hi31 (HB0_2.out.ext e3);have HB1_3:=Hi31 (HB1_2.out.ext e3);clear e3 c1_0 c0_0;have HBz1_3:=Hi31 b_;have HCBz1:=Hi31 c_;clear g_ b_ c_;have c0_2:=HB0_3.out.cell 2 rfl;have f0_2:=HB0_3.out.free 2;go_upto_region 10 with fail
 refine wp_name (fun W=>Ext w W/\Blk W (w.heap.size) (#[.int .i64 (P.n:Int),.slice ro P.m rcap,.slice (some ⟨kz1,0,none⟩) P.n P.n]) 32/\Blk W (w1.heap.size) (#[.string ⟨#[49]⟩,.string ⟨#[45,49]⟩]) 34/\Blk W (kz1) (CZ1) 34) ⟨(HX3.out.setCell (HGEB0.out) _),(HB0_3.out.set 2 (.slice (some ⟨kz1,0,none⟩) P.n P.n)),(HB1_3.out.other (a:=⟨w.heap.size,2,none⟩) _ (Nat.ne_of_gt HB0_1.out.lt)),(HBz1_3.out.other (a:=⟨w.heap.size,2,none⟩) _ (fun h=>HNB0Bz1.out h.symm))⟩ ?_;rintro w4 ⟨e4,bB0_4,bB1_4,bBz1_4⟩;have HX4:=Hi31 e4;have HB0_4:=Hi31 bB0_4;have HB1_4:=Hi31 bB1_4;have HBz1_4:=Hi31 bBz1_4;clear e4 bB0_4 bB1_4 bBz1_4 c0_2 f0_2;have c0_2:=HB0_4.out.cell 2 rfl;have cz1_k:=HBz1_4.out.cell (k) (HCBz1.out k hk);have fz1_k:=HBz1_4.out.free k;go_upto_region 11 with fail
 refine wp_name (fun W=>Ext w W/\Blk W (w.heap.size) (#[.int .i64 (P.n:Int),.slice ro P.m rcap,.slice (some ⟨kz1,0,none⟩) P.n P.n]) 32/\Blk W (w1.heap.size) (#[.string ⟨#[49]⟩,.string ⟨#[45,49]⟩]) 34/\Blk W (kz1) ((CZ1).setIfInBounds k (.string ⟨#[49]⟩)) 34) ⟨(HX4.out.setCell HGEBz1.out _),(HB0_4.out.other (a:=⟨kz1,k,none⟩) _ (HNB0Bz1.out)),(HB1_4.out.other (a:=⟨kz1,k,none⟩) _ (HNB1Bz1.out)),(HBz1_4.out.set k (.string ⟨#[49]⟩))⟩ ?_;rintro w5 ⟨e5,bB0_5,bB1_5,bBz1_5⟩;have HX5:=Hi31 e5;have HB0_5:=Hi31 bB0_5;have HB1_5:=Hi31 bB1_5;have HBz1_5:=Hi31 bBz1_5;clear e5 bB0_5 bB1_5 bBz1_5 c0_2 cz1_k fz1_k;have c0_0:=HB0_5.out.cell 0 rfl;have c0_1:=HB0_5.out.cell 1 rfl;have c0_2:=HB0_5.out.cell 2 rfl;go_wp2_with fail;refine (solve_c { P with C:=fun j=>if j=k then (1:Rat) else 0 } _ _ va q _ (HG.out.ext (HX5.out)) (pm_obj (HPM.out.ext HX5.out) (Rd.blk HBz1_5.out (Nat.le_refl _) (cap_le (by omega)) (unit_row qs_one HCBz1.out))) HSZ1.out (by have:=hn;show P.n<=1000;omega) (by have:=hm;show P.m<=1000;omega) hq1 (by omega) HQA.out).mono ?_;rintro e w6 ⟨v_,rfl,e6,sv_⟩;have HX6:=Hi31 (HX5.out.trans e6);have HB0_6:=Hi31 (HB0_5.out.ext e6);have HB1_6:=Hi31 (HB1_5.out.ext e6);have HBz1_6:=Hi31 (HBz1_5.out.ext e6);clear e6 c0_0 c0_1 c0_2;obtain ⟨kd1,vl1,a1_,m1_,c1_,d1_,n1_,f1_,g1_,h1_,k1_,rfl⟩:=sv_.shape;have HSV1_6:=Hi31 sv_;clear sv_;go_upto_region 13 with fail
 refine wp_name (fun W=>Ext w W/\Blk W (w.heap.size) (#[.int .i64 (P.n:Int),.slice ro P.m rcap,.slice (some ⟨kz1,0,none⟩) P.n P.n]) 32/\Blk W (w1.heap.size) (#[.string ⟨#[49]⟩,.string ⟨#[45,49]⟩]) 34/\SolV ({ P with C:=fun j=>if j=k then (1:Rat) else 0 }) q w5 W (.agg #[.int .i64 kd1,.string vl1,.slice a1_ m1_ c1_,.slice d1_ n1_ f1_,.slice g1_ h1_ k1_])/\Blk W (w6.heap.size) (#[.int .i64 kd1,.string vl1,.slice a1_ m1_ c1_,.slice d1_ n1_ f1_,.slice g1_ h1_ k1_]) 38) ⟨(HX6.out.alloc _),(HB0_6.out.alloc _),(HB1_6.out.alloc _),(HSV1_6.out.alloc _),(Blk.nw (#[.int .i64 kd1,.string vl1,.slice a1_ m1_ c1_,.slice d1_ n1_ f1_,.slice g1_ h1_ k1_]) 38)⟩ ?_;rintro w7 ⟨e7,bB0_7,bB1_7,bSV1_7,bB2_7⟩;have HX7:=Hi31 e7;have HB0_7:=Hi31 bB0_7;have HB1_7:=Hi31 bB1_7;have HSV1_7:=Hi31 bSV1_7;have HB2_7:=Hi31 bB2_7;have HGEB2:Hid (w.heap.size<=w6.heap.size):=Hi31 (HX6.out.size);clear e7 bB0_7 bB1_7 bSV1_7 bB2_7;rcases HSV1_7.out.kds with rfl|rfl|rfl
 ·obtain ⟨z1,hz1,hq1_,he_⟩:=HSV1_7.out.opt;subst he_;have HZ1:=Hi31 hz1;have HQZ1:=Hi31 hq1_;clear hz1 hq1_;have c2_0:=HB2_7.out.cell 0 rfl;have c2_1:=HB2_7.out.cell 1 rfl;clear HSV1_7;go_wp2_with fail;refine (wrong_no z1 _ (HG.out.ext (HX7.out)) (HQZ1.out.mono hq2)).mono ?_;rintro e w8 ⟨rfl,e8⟩;have HX8:=Hi31 (HX7.out.trans e8);have HB0_8:=Hi31 (HB0_7.out.ext e8);have HB1_8:=Hi31 (HB1_7.out.ext e8);have HB2_8:=Hi31 (HB2_7.out.ext e8);clear e8 c2_0 c2_1;have c2_1:=HB2_8.out.cell 1 rfl;go_wp2_with fail;rw [rounds_succ];clear c2_1;have c1_1:=HB1_8.out.cell 1 rfl;have c0_0:=HB0_8.out.cell 0 rfl;go_wp2_with fail;refine (zeros_c P.n (by omega) _).mono ?_;rintro e w9 ⟨kz2,CZ2,rfl,e9,g_,b_,c_⟩;have HNB0Bz2:Hid (w.heap.size≠kz2):=Hi31 (Nat.ne_of_lt (Nat.lt_of_lt_of_le HB0_8.out.lt g_));have HGEBz2:Hid (w.heap.size<=kz2):=Hi31 (Nat.le_trans HX8.out.size g_);have HX9:=Hi31 (HX8.out.trans e9);have HB0_9:=Hi31 (HB0_8.out.ext e9);clear e9 c1_1 c0_0;have HBz2_9:=Hi31 b_;have HCBz2:=Hi31 c_;clear g_ b_ c_;have c0_2:=HB0_9.out.cell 2 rfl;have f0_2:=HB0_9.out.free 2;go_upto_region 10 with fail
  refine wp_name (fun W=>Ext w W/\Blk W (w.heap.size) (#[.int .i64 (P.n:Int),.slice ro P.m rcap,.slice (some ⟨kz2,0,none⟩) P.n P.n]) 32/\Blk W (kz2) (CZ2) 34) ⟨(HX9.out.setCell (HGEB0.out) _),(HB0_9.out.set 2 (.slice (some ⟨kz2,0,none⟩) P.n P.n)),(HBz2_9.out.other (a:=⟨w.heap.size,2,none⟩) _ (fun h=>HNB0Bz2.out h.symm))⟩ ?_;rintro w10 ⟨e10,bB0_10,bBz2_10⟩;have HX10:=Hi31 e10;have HB0_10:=Hi31 bB0_10;have HBz2_10:=Hi31 bBz2_10;clear e10 bB0_10 bBz2_10 c0_2 f0_2;have c0_2:=HB0_10.out.cell 2 rfl;have cz2_k:=HBz2_10.out.cell (k) (HCBz2.out k hk);have fz2_k:=HBz2_10.out.free k;go_upto_region 11 with fail
  refine wp_name (fun W=>Ext w W/\Blk W (w.heap.size) (#[.int .i64 (P.n:Int),.slice ro P.m rcap,.slice (some ⟨kz2,0,none⟩) P.n P.n]) 32/\Blk W (kz2) ((CZ2).setIfInBounds k (.string ⟨#[45,49]⟩)) 34) ⟨(HX10.out.setCell HGEBz2.out _),(HB0_10.out.other (a:=⟨kz2,k,none⟩) _ (HNB0Bz2.out)),(HBz2_10.out.set k (.string ⟨#[45,49]⟩))⟩ ?_;rintro w11 ⟨e11,bB0_11,bBz2_11⟩;have HX11:=Hi31 e11;have HB0_11:=Hi31 bB0_11;have HBz2_11:=Hi31 bBz2_11;clear e11 bB0_11 bBz2_11 c0_2 cz2_k fz2_k;have c0_0:=HB0_11.out.cell 0 rfl;have c0_1:=HB0_11.out.cell 1 rfl;have c0_2:=HB0_11.out.cell 2 rfl;go_wp2_with fail;refine (solve_c { P with C:=fun j=>if j=k then (-1:Rat) else 0 } _ _ va q _ (HG.out.ext (HX11.out)) (pm_obj (HPM.out.ext HX11.out) (Rd.blk HBz2_11.out (Nat.le_refl _) (cap_le (by omega)) (unit_row qs_m1 HCBz2.out))) HSZ2.out (by have:=hn;show P.n<=1000;omega) (by have:=hm;show P.m<=1000;omega) hq1 (by omega) HQA.out).mono ?_;rintro e w12 ⟨v_,rfl,e12,sv_⟩;have HX12:=Hi31 (HX11.out.trans e12);have HBz2_12:=Hi31 (HBz2_11.out.ext e12);clear e12 c0_0 c0_1 c0_2;obtain ⟨kd2,vl2,a2_,m2_,c2_,d2_,n2_,f2_,g2_,h2_,k2_,rfl⟩:=sv_.shape;have HSV2_12:=Hi31 sv_;clear sv_;go_upto_region 13 with fail
  refine wp_name (fun W=>Ext w W/\SolV ({ P with C:=fun j=>if j=k then (-1:Rat) else 0 }) q w11 W (.agg #[.int .i64 kd2,.string vl2,.slice a2_ m2_ c2_,.slice d2_ n2_ f2_,.slice g2_ h2_ k2_])/\Blk W (w12.heap.size) (#[.int .i64 kd2,.string vl2,.slice a2_ m2_ c2_,.slice d2_ n2_ f2_,.slice g2_ h2_ k2_]) 38) ⟨(HX12.out.alloc _),(HSV2_12.out.alloc _),(Blk.nw (#[.int .i64 kd2,.string vl2,.slice a2_ m2_ c2_,.slice d2_ n2_ f2_,.slice g2_ h2_ k2_]) 38)⟩ ?_;rintro w13 ⟨e13,bSV2_13,bB3_13⟩;have HX13:=Hi31 e13;have HSV2_13:=Hi31 bSV2_13;have HB3_13:=Hi31 bB3_13;have HGEB3:Hid (w.heap.size<=w12.heap.size):=Hi31 (HX12.out.size);clear e13 bSV2_13 bB3_13;rcases HSV2_13.out.kds with rfl|rfl|rfl
  ·obtain ⟨z2,hz2,hq2_,he_⟩:=HSV2_13.out.opt;subst he_;have HZ2:=Hi31 hz2;have HQZ2:=Hi31 hq2_;clear hz2 hq2_;have c3_0:=HB3_13.out.cell 0 rfl;have c3_1:=HB3_13.out.cell 1 rfl;clear HSV2_13;go_wp2_with fail;refine (wrong_no z2 _ (HG.out.ext (HX13.out)) (HQZ2.out.mono hq2)).mono ?_;rintro e w14 ⟨rfl,e14⟩;have HX14:=Hi31 (HX13.out.trans e14);have HB3_14:=Hi31 (HB3_13.out.ext e14);clear e14 c3_0 c3_1;have c3_1:=HB3_14.out.cell 1 rfl;go_wp2_with fail;refine (rneg_c z2 _ HQZ2.out (by omega)).mono ?_;rintro e w15 ⟨rfl,e15⟩;have HX15:=Hi31 (HX14.out.trans e15);clear e15 c3_1;go_wp2_with fail;rw [rounds_succ];go_wp2;go_ret3;exact ⟨HX15.out,Or.inr ⟨_,_,rfl,Or.inl ⟨_,HZ1.out,HQZ1.out,rfl⟩,Or.inl ⟨_,HZ2.out,HQZ2.out,rfl⟩⟩⟩
  ·have HRF:=Hi31 HSV2_13.out.refs;have c3_0:=HB3_13.out.cell 0 rfl;clear HSV2_13;go_wp2;go_ret3;exact ⟨HX13.out,Or.inl ⟨rfl,HRF.out⟩⟩
  ·have HFA2:=Hi31 HSV2_13.out.falls;have c3_0:=HB3_13.out.cell 0 rfl;clear HSV2_13;go_wp2_with fail;rw [rounds_succ];clear c3_0;go_wp2;go_ret3;exact ⟨HX13.out,Or.inr ⟨_,_,rfl,Or.inl ⟨_,HZ1.out,HQZ1.out,rfl⟩,Or.inr ⟨HFA2.out,rfl⟩⟩⟩
 ·have HRF:=Hi31 HSV1_7.out.refs;have c2_0:=HB2_7.out.cell 0 rfl;clear HSV1_7;go_wp2;go_ret3;exact ⟨HX7.out,Or.inl ⟨rfl,HRF.out⟩⟩
 ·have HFA1:=Hi31 HSV1_7.out.falls;have c2_0:=HB2_7.out.cell 0 rfl;clear HSV1_7;go_wp2_with fail;rw [rounds_succ];clear c2_0;have c1_1:=HB1_7.out.cell 1 rfl;have c0_0:=HB0_7.out.cell 0 rfl;go_wp2_with fail;refine (zeros_c P.n (by omega) _).mono ?_;rintro e w8 ⟨kz2,CZ2,rfl,e8,g_,b_,c_⟩;have HNB0Bz2:Hid (w.heap.size≠kz2):=Hi31 (Nat.ne_of_lt (Nat.lt_of_lt_of_le HB0_7.out.lt g_));have HNB1Bz2:Hid (w1.heap.size≠kz2):=Hi31 (Nat.ne_of_lt (Nat.lt_of_lt_of_le HB1_7.out.lt g_));have HGEBz2:Hid (w.heap.size<=kz2):=Hi31 (Nat.le_trans HX7.out.size g_);have HX8:=Hi31 (HX7.out.trans e8);have HB0_8:=Hi31 (HB0_7.out.ext e8);have HB1_8:=Hi31 (HB1_7.out.ext e8);clear e8 c1_1 c0_0;have HBz2_8:=Hi31 b_;have HCBz2:=Hi31 c_;clear g_ b_ c_;have c0_2:=HB0_8.out.cell 2 rfl;have f0_2:=HB0_8.out.free 2;go_upto_region 10 with fail
  refine wp_name (fun W=>Ext w W/\Blk W (w.heap.size) (#[.int .i64 (P.n:Int),.slice ro P.m rcap,.slice (some ⟨kz2,0,none⟩) P.n P.n]) 32/\Blk W (w1.heap.size) (#[.string ⟨#[49]⟩,.string ⟨#[45,49]⟩]) 34/\Blk W (kz2) (CZ2) 34) ⟨(HX8.out.setCell (HGEB0.out) _),(HB0_8.out.set 2 (.slice (some ⟨kz2,0,none⟩) P.n P.n)),(HB1_8.out.other (a:=⟨w.heap.size,2,none⟩) _ (Nat.ne_of_gt HB0_1.out.lt)),(HBz2_8.out.other (a:=⟨w.heap.size,2,none⟩) _ (fun h=>HNB0Bz2.out h.symm))⟩ ?_;rintro w9 ⟨e9,bB0_9,bB1_9,bBz2_9⟩;have HX9:=Hi31 e9;have HB0_9:=Hi31 bB0_9;have HB1_9:=Hi31 bB1_9;have HBz2_9:=Hi31 bBz2_9;clear e9 bB0_9 bB1_9 bBz2_9 c0_2 f0_2;have c0_2:=HB0_9.out.cell 2 rfl;have cz2_k:=HBz2_9.out.cell (k) (HCBz2.out k hk);have fz2_k:=HBz2_9.out.free k;go_upto_region 11 with fail
  refine wp_name (fun W=>Ext w W/\Blk W (w.heap.size) (#[.int .i64 (P.n:Int),.slice ro P.m rcap,.slice (some ⟨kz2,0,none⟩) P.n P.n]) 32/\Blk W (kz2) ((CZ2).setIfInBounds k (.string ⟨#[45,49]⟩)) 34) ⟨(HX9.out.setCell HGEBz2.out _),(HB0_9.out.other (a:=⟨kz2,k,none⟩) _ (HNB0Bz2.out)),(HBz2_9.out.set k (.string ⟨#[45,49]⟩))⟩ ?_;rintro w10 ⟨e10,bB0_10,bBz2_10⟩;have HX10:=Hi31 e10;have HB0_10:=Hi31 bB0_10;have HBz2_10:=Hi31 bBz2_10;clear e10 bB0_10 bBz2_10 c0_2 cz2_k fz2_k;have c0_0:=HB0_10.out.cell 0 rfl;have c0_1:=HB0_10.out.cell 1 rfl;have c0_2:=HB0_10.out.cell 2 rfl;go_wp2_with fail;refine (solve_c { P with C:=fun j=>if j=k then (-1:Rat) else 0 } _ _ va q _ (HG.out.ext (HX10.out)) (pm_obj (HPM.out.ext HX10.out) (Rd.blk HBz2_10.out (Nat.le_refl _) (cap_le (by omega)) (unit_row qs_m1 HCBz2.out))) HSZ2.out (by have:=hn;show P.n<=1000;omega) (by have:=hm;show P.m<=1000;omega) hq1 (by omega) HQA.out).mono ?_;rintro e w11 ⟨v_,rfl,e11,sv_⟩;have HX11:=Hi31 (HX10.out.trans e11);have HB0_11:=Hi31 (HB0_10.out.ext e11);have HBz2_11:=Hi31 (HBz2_10.out.ext e11);clear e11 c0_0 c0_1 c0_2;obtain ⟨kd2,vl2,a2_,m2_,c2_,d2_,n2_,f2_,g2_,h2_,k2_,rfl⟩:=sv_.shape;have HSV2_11:=Hi31 sv_;clear sv_;go_upto_region 13 with fail
  refine wp_name (fun W=>Ext w W/\Blk W (w.heap.size) (#[.int .i64 (P.n:Int),.slice ro P.m rcap,.slice (some ⟨kz2,0,none⟩) P.n P.n]) 32/\Blk W (kz2) ((CZ2).setIfInBounds k (.string ⟨#[45,49]⟩)) 34/\SolV ({ P with C:=fun j=>if j=k then (-1:Rat) else 0 }) q w10 W (.agg #[.int .i64 kd2,.string vl2,.slice a2_ m2_ c2_,.slice d2_ n2_ f2_,.slice g2_ h2_ k2_])/\Blk W (w11.heap.size) (#[.int .i64 kd2,.string vl2,.slice a2_ m2_ c2_,.slice d2_ n2_ f2_,.slice g2_ h2_ k2_]) 38) ⟨(HX11.out.alloc _),(HB0_11.out.alloc _),(HBz2_11.out.alloc _),(HSV2_11.out.alloc _),(Blk.nw (#[.int .i64 kd2,.string vl2,.slice a2_ m2_ c2_,.slice d2_ n2_ f2_,.slice g2_ h2_ k2_]) 38)⟩ ?_;rintro w12 ⟨e12,bB0_12,bBz2_12,bSV2_12,bB3_12⟩;have HX12:=Hi31 e12;have HB0_12:=Hi31 bB0_12;have HBz2_12:=Hi31 bBz2_12;have HSV2_12:=Hi31 bSV2_12;have HB3_12:=Hi31 bB3_12;have HGEB3:Hid (w.heap.size<=w11.heap.size):=Hi31 (HX11.out.size);clear e12 bB0_12 bBz2_12 bSV2_12 bB3_12;rcases HSV2_12.out.kds with rfl|rfl|rfl
  ·obtain ⟨z2,hz2,hq2_,he_⟩:=HSV2_12.out.opt;subst he_;have HZ2:=Hi31 hz2;have HQZ2:=Hi31 hq2_;clear hz2 hq2_;have c3_0:=HB3_12.out.cell 0 rfl;have c3_1:=HB3_12.out.cell 1 rfl;clear HSV2_12;go_wp2_with fail;refine (wrong_no z2 _ (HG.out.ext (HX12.out)) (HQZ2.out.mono hq2)).mono ?_;rintro e w13 ⟨rfl,e13⟩;have HX13:=Hi31 (HX12.out.trans e13);have HB3_13:=Hi31 (HB3_12.out.ext e13);clear e13 c3_0 c3_1;have c3_1:=HB3_13.out.cell 1 rfl;go_wp2_with fail;refine (rneg_c z2 _ HQZ2.out (by omega)).mono ?_;rintro e w14 ⟨rfl,e14⟩;have HX14:=Hi31 (HX13.out.trans e14);have HB3_14:=Hi31 (HB3_13.out.ext e14);clear e14 c3_1;go_wp2_with fail;rw [rounds_succ];go_wp2;go_ret3;exact ⟨HX14.out,Or.inr ⟨_,_,rfl,Or.inr ⟨HFA1.out,rfl⟩,Or.inl ⟨_,HZ2.out,HQZ2.out,rfl⟩⟩⟩
  ·have HRF:=Hi31 HSV2_12.out.refs;have c3_0:=HB3_12.out.cell 0 rfl;clear HSV2_12;go_wp2;go_ret3;exact ⟨HX12.out,Or.inl ⟨rfl,HRF.out⟩⟩
  ·have HFA2:=Hi31 HSV2_12.out.falls;have c3_0:=HB3_12.out.cell 0 rfl;clear HSV2_12;go_wp2_with fail;rw [rounds_succ];clear c3_0;go_wp2;go_ret3;exact ⟨HX12.out,Or.inr ⟨_,_,rfl,Or.inr ⟨HFA1.out,rfl⟩,Or.inr ⟨HFA2.out,rfl⟩⟩⟩
theorem tl_ne {b:ByteArray} {l:List UInt8} (h:¬ b=⟨l.toArray⟩):(b.toList == l)=false:=by
 rw [toList_data];rcases b with ⟨⟨m⟩⟩;simpa using fun e=>h (by rw [e])
def fil (is:Nat->Bool) (k:Nat):List Nat:=(List.range k).filter is
theorem fil_yes {is:Nat->Bool} {k:Nat} (h:is k=true):fil is (k+1)=fil is k ++ [k]:=by simp [fil,List.range_succ,h]
theorem fil_no {is:Nat->Bool} {k:Nat} (h:is k=false):fil is (k+1)=fil is k:=by simp [fil,List.range_succ,h]
theorem fil_len {is:Nat->Bool} {k:Nat}:(fil is k).length<=k:=by have:=List.length_filter_le is (List.range k);rw [List.length_range] at this;exact this
def filG (is:Nat->Bool) (k:Nat) (j:Nat):Value:=.int .i64 (((fil is k)[j]?.getD 0:Nat):Int)
abbrev FL (X w:World) (is:Nat->Bool) (k:Nat) (v:Value):Prop:=Osl X w 3 1 v (fil is k).length (filG is k)
section
variable {X w w':World} {is:Nat->Bool} {k:Nat} {v:Value}
theorem FL.nil (X w:World) (is:Nat->Bool):FL X w is 0 (.slice none 0 0):=Osl.nil _ _ _ _ _
theorem FL.skip (h:FL X w is k v) (hk:is k=false):FL X w is (k+1) v:=by
 have e:filG is (k+1)=filG is k:=by funext j;rw [filG,filG,fil_no hk]
 rw [FL,fil_no hk,e];exact h
theorem FL.push {v':Value} (h:App X w 3 1 v (fil is k).length 1 (filG is k) (fun _ => .int .i64 (k:Int)) v' w') (hk:is k=true):FL X w' is (k+1) v':=by
 have e:(fil is (k+1)).length=(fil is k).length+1:=by rw [fil_yes hk];simp
 rw [FL,e];refine h.own.congr fun i hi=>?_
 rw [Nat.mul_one] at hi;by_cases h1:i<(fil is k).length
 ·rw [app_lt (by omega),filG,filG,fil_yes hk,List.getElem?_append_left h1]
 ·have:i=(fil is k).length:=by omega
  rw [app_ge (by omega),filG,fil_yes hk,this];simp
theorem Osl.alloc {t:TypeId} {sz n:Nat} {G:Nat->Value} (h:Osl X w t sz v n G) (o:Obj):Osl X (w.alloc o) t sz v n G:=h.ext ((Ext.refl _).alloc o)
theorem Osl.drew {t:TypeId} {sz n:Nat} {G:Nat->Value} (h:Osl X w t sz v n G):Osl X w.drew t sz v n G:=h.ext (Ext.refl _).drew
theorem Osl.ne {t:TypeId} {sz n:Nat} {G:Nat->Value} (h:Osl X w t sz v n G) {b:Nat} (hb:w.heap.size<=b):∀ k,vob v k->k≠b:=fun k hk e=>by have:=(h.lt hk).2;omega
theorem fl_sz {n:Nat} (h:n<=1000):(fil is n).length+1<=maxLen:=by have:=@fil_len is n;unfold maxLen;omega
theorem fl_sz2 {n:Nat} (h:n<=1000):((fil is n).length+1)*8<=140737488355328:=by have:=@fil_len is n;omega
end
def vio (P:LP) (x:Nat->Rat) (k:Nat):Bool:=decide (P.B k<smq P.n (fun j=>P.A k j*x j))
def VioP (P:LP) (x:Nat->Rat) (w:World) (e:Ending) (w':World):Prop:=∃ v,e = .returned (.tuple #[v,.int .i64 0])/\Ext w w'/\FL w w' (vio P x) P.m v
theorem qcmp_gtb {a b:Rat}:0<qcmp a b ↔ b<a:=by
 unfold qcmp;by_cases h:a<b
 ·rw [if_pos h];exact ⟨fun h2=>absurd h2 (by decide),fun h2=>by grind⟩
 ·rw [if_neg h];by_cases h3:a=b
  ·rw [if_pos h3];exact ⟨fun h2=>absurd h2 (by decide),fun h2=>by grind⟩
  ·rw [if_neg h3];exact ⟨fun _=>by grind,fun _=>by decide⟩
theorem pviol_c (P:LP) (vr vc:Value) (va:Nat->Value) (q:Nat) (w:World) (g:Gd w) (hP:PM P w vr vc va) (vx:Value) (x:Nat->Rat) (r:Nat) (hx:Rq w vx P.n x) (hr:∀ j,j<P.n->QB r (x j)) (hr2:r<=200) (hsz:P.n*(q+r+1)<=198) (Q:PQ P) (hn:P.n<=60) (hm:P.m<=300) (hq1:1<=q) (hq2:q<=200) (qa:∀ i,i<P.m->∀ j,j<P.n->QB q (P.A i j)):Calls Tryz.prog 75 #[.agg #[.int .i64 (P.n:Int),vr,vc],vx] w (VioP P x w):=by
 have HPM:=Hi31 hP;have HXR:=Hi31 hx;have HXQ:=Hi31 hr;have HG:=Hi31 g;have HQA:=Hi31 qa;have HQP:=Hi31 Q;clear hP hx hr g qa Q;have HPO:=Hi31 HPM.out.obj;have HPF:=Hi31 HPM.out.fac;obtain ⟨co,ccap,ec_,_⟩:=HPM.out.obj;obtain ⟨ro,rcap,er_,_,_,hrr⟩:=HPM.out.rows;subst er_ ec_;have HRR:=Hi31 hrr;clear hrr;go_enter Tryz.func75,Tryz.ntmps75;go_wp2_with fail;refine (check_go P _ _ va _ (HG.out.ext (((Ext.refl w).alloc _))) (HPM.out.ext ((Ext.refl w).alloc _)) HQP.out hn hm).mono ?_;rintro e w1 ⟨rfl,e1⟩;have HX1:Hid (Ext w w1):=Hi31 (((Ext.refl w).alloc _).trans e1);have HB0_1:Hid (Blk w1 (w.heap.size) (#[.int .i64 (P.n:Int),.slice ro P.m rcap,.slice co P.n ccap]) 32):=Hi31 (((Blk.nw (#[.int .i64 (P.n:Int),.slice ro P.m rcap,.slice co P.n ccap]) 32)).ext e1);have HGEB0:Hid (w.heap.size<=w.heap.size):=Hi31 (Nat.le_refl _);clear e1;have c0_0:=HB0_1.out.cell 0 rfl;go_wp2_with fail;refine (plist_ok (HXR.out.ext HX1.out) (HG.out.ext (HX1.out)) (fun j hj=>(HXQ.out j hj).mono hr2) hn).mono ?_;rintro e w2 ⟨rfl,e2⟩;have HX2:=Hi31 (HX1.out.trans e2);have HB0_2:=Hi31 (HB0_1.out.ext e2);clear e2 c0_0;have c0_1:=HB0_2.out.cell 1 rfl;go_wp2_with fail;clear c0_1;have HFL_2:Hid (FL w w2 (vio P x) 0 (.slice none 0 0)):=Hi31 (FL.nil _ _ _);go_wp2_with fail;go_loopw [26,8] (fun x0_ x1_ wx=>∃ k:Nat,∃ la:Option Addr,∃ ln:Nat,∃ lc:Nat,x0_ = .int .i64 k/\x1_ = .slice la ln lc/\k<=P.m/\Hid (Ext w wx/\Blk wx (w.heap.size) (#[.int .i64 (P.n:Int),.slice ro P.m rcap,.slice co P.n ccap]) 32/\FL w wx (vio P x) k (.slice la ln lc))) (fun x0_ _ _=>P.m-(intOf x0_).toNat)
 case atStart=>exact ⟨0,none,0,0,rfl,rfl,Nat.zero_le _,Hi31 ⟨HX2.out,HB0_2.out,HFL_2.out⟩⟩
 case round =>
  rename World=>w3
  obtain ⟨k,la,ln,lc,rfl,rfl,hkk,HH⟩:=hrel;have HX3:=Hi31 HH.out.1;have HB0_3:=Hi31 HH.out.2.1;have HFL_3:=Hi31 HH.out.2.2;clear HH;by_cases hlt:k<P.m
  ·have hlt2:(k:Int)<((P.m:Nat):Int):=by omega
   obtain ⟨ra,o_,rfl,zr_,zs_⟩:=HRR.out k hlt;obtain ⟨fo,fcap,ef_,_⟩:=HPF.out k hlt;rw [ef_] at zr_;have HFK:=Hi31 (ef_▸HPF.out k hlt);have HCr:=Hi31 zr_;have HCs:=Hi31 zs_;clear zr_ zs_ ef_;have cr_o____k___2:=keepA HX3.out (HCr.out);have cr_o____k___2___1:=keepA HX3.out (HCs.out);go_upto_region 11 with fail
   refine wp_name (fun W=>Ext w W/\Blk W (w.heap.size) (#[.int .i64 (P.n:Int),.slice (some ⟨ra,o_,none⟩) P.m rcap,.slice co P.n ccap]) 32/\FL w W (vio P x) k (.slice la ln lc)/\Blk W (w3.heap.size) (#[.slice fo P.n fcap,.string (qs (P.B k))]) 97) ⟨(HX3.out.alloc _),(HB0_3.out.alloc _),(HFL_3.out.alloc _),(Blk.nw (#[.slice fo P.n fcap,.string (qs (P.B k))]) 97)⟩ ?_;rintro w4 ⟨e4,bB0_4,bFL_4,bB1_4⟩;have HX4:=Hi31 e4;have HB0_4:=Hi31 bB0_4;have HFL_4:=Hi31 bFL_4;have HB1_4:=Hi31 bB1_4;have HGEB1:Hid (w.heap.size<=w3.heap.size):=Hi31 (HX3.out.size);clear e4 bB0_4 bFL_4 bB1_4 cr_o____k___2 cr_o____k___2___1;go_wp2_with fail;refine region_e [.val (.pointer (some ⟨w3.heap.size,0,none⟩)),.val (.slice fo P.n fcap),.val (vx),.val (.string (qs (smq P.n (fun j=>P.A k j*x j)))),.val (.pointer (some ⟨w3.heap.size,1,none⟩)),.val (.string (qs (P.B k))),.val (.int .i64 (qcmp (smq P.n (fun j=>P.A k j*x j)) (P.B k))),.val (.bool (decide (0<qcmp (smq P.n (fun j=>P.A k j*x j)) (P.B k))))] (fun L g W=>True) (S:=fun _=>False) (by kernel_rfl) (by kernel_rfl) (by kernel_rfl) (Mv.refl HX4.out (fun k h=>h.elim)) ?_ ?_ ?_ ?_ (fun gv_ w5 hm_ he_=>?_)
   ·exact fun _=>trivial
   ·exact fun _ _ _ _ h _=>h
   ·exact fun _ _ _ _ _ _ h=>h
   ·skip
    refine RI 10 (.pointer (some ⟨w3.heap.size,0,none⟩))<|J2 (fun hs_=>hs_.val 0) (fun hs_=>(hs_.mv.blk HB1_4.out (fun h=>h)).cell 0 rfl) ?_;refine RV (fun A_ hs_ K_ hK_=>?_) ?_;· have q1_:=(hs_.old 1:A_.tmps[1]?.getD undef=vx);go_simp;exact fin_ hK_
    refine RV (fun A_ hs_ K_ hK_=>?_) ?_;· have q32_:=hs_.val 1;have q33_:=hs_.val 2;go_simp;refine (dot_c _ _ P.n (P.A k) x _ (HG.out.ext hs_.mv.ext) (HFK.out.ext hs_.mv.ext) (HXR.out.ext hs_.mv.ext) (HQA.out k hlt) HXQ.out (by omega) hsz).mono ?_;rintro e W9_ ⟨rfl,e9_⟩;exact hK_.out _ e9_
    refine RI 10 (.pointer (some ⟨w3.heap.size,0,none⟩))<|J2 (fun hs_=>hs_.val 4) (fun hs_=>(hs_.mv.blk HB1_4.out (fun h=>h)).cell 1 rfl) ?_;refine RV (fun A_ hs_ K_ hK_=>?_) ?_;· have q34_:=hs_.val 3;have q36_:=hs_.val 5;go_simp;refine (rcompare_c (smq P.n (fun j=>P.A k j*x j)) (P.B k) _ (HG.out.ext hs_.mv.ext) ((smq_qb (HQA.out k hlt) HXQ.out P.n (Nat.le_refl _)).mono (dot_sz (Nat.le_refl _) hsz)) (HQP.out.B k hlt) (by omega) (by omega)).mono ?_;rintro e W9_ ⟨rfl,e9_⟩;exact hK_.out _ e9_
    exact R1 6<|RnEL.nil
   simp only [fse,Ke.value,puts,Act.put,List.setIfInBounds_toArray,List.set_cons_zero,List.set_cons_succ];have HX5:Hid (Ext w w5):=Hi31 hm_.ext;have HB0_5:=Hi31 (hm_.blk HB0_4.out (fun h=>h));have HFL_5:=Hi31 (HFL_4.out.mv hm_ (fun i hi h=>h));clear hm_ he_;by_cases hz:0<qcmp (smq P.n (fun j=>P.A k j*x j)) (P.B k)
   ·have hz2:decide (0<qcmp (smq P.n (fun j=>P.A k j*x j)) (P.B k))=true:=decide_eq_true hz;have hs_:vio P x k=true:=decide_eq_true (qcmp_gtb.1 hz);have HSK:=Hi31 hs_;clear hs_;go_wp2_with (
     at_builtin;refine wpList_plain rfl fun K_ hK_=>op_append2 (X:=w) (H:=fun _ => .int .i64 (k:Int)) (ad:=⟨w5.heap.size,0,none⟩) (m:=1) (c:=1) (v:=.slice la ln lc) rfl rfl rfl under_i info_i rfl (HX5.out.alloc _) (HFL_5.out.alloc _) (fun _=>by decide) (fun j hj=>by obtain rfl:j=0:=(by omega);exact blk_add (Blk.nw (#[.int .i64 (k:Int)]) 3) rfl) (fun _ _=>rfl) (fl_sz (by omega)) (fl_sz2 (by omega)) (fun a6_ n6_ c6_ w6 hA_=>hK_ _ _ ?_)
     have HX6:Hid (Ext w w6):=Hi31 hA_.mv.ext;have HB0_6:Hid (Blk w6 (w.heap.size) (#[.int .i64 (P.n:Int),.slice (some ⟨ra,o_,none⟩) P.m rcap,.slice co P.n ccap]) 32):=Hi31 (hA_.mv.blk (HB0_5.out.alloc _) (Osl.not_vob HFL_5.out HB0_5.out (by decide)));have HFL_6:Hid (FL w w6 (vio P x) (k+1) (.slice a6_ n6_ c6_)):=Hi31 (FL.push hA_ HSK.out);clear hA_
    )
    go_roundw
    case rel=>exact ⟨k+1,_,_,_,by go_num,rfl,by omega,Hi31 ⟨HX6.out,HB0_6.out,HFL_6.out⟩⟩
    case measure=>simp [intOf];omega
   ·have hz2:decide (0<qcmp (smq P.n (fun j=>P.A k j*x j)) (P.B k))=false:=decide_eq_false hz;have hs_:vio P x k=false:=decide_eq_false (fun h=>hz (qcmp_gtb.2 h));have HSK:=Hi31 hs_;clear hs_;go_wp2_with fail;go_roundw
    case rel=>exact ⟨k+1,_,_,_,by go_num,rfl,by omega,Hi31 ⟨HX5.out,HB0_5.out,(FL.skip HFL_5.out HSK.out)⟩⟩
    case measure=>simp [intOf];omega
  ·have hk2:k=P.m:=by omega
   have hge:¬ (k:Int)<((P.m:Nat):Int):=by omega
   go_wp2;go_ret2;exact ⟨_,rfl,HX3.out,hk2▸HFL_3.out⟩
theorem pviol_bad (P:LP) (vr vc:Value) (va:Nat->Value) (q:Nat) (w:World) (g:Gd w) (hP:PM P w vr vc va) (vx:Value) (m:Nat) (t:Nat->ByteArray) (hT:Rs w vx m t) (hts:∀ i,i<m->(t i).size<=1000000) (hm6:m<=1000000) (hle:lerr t m P.n≠0) (Q:PQ P) (hn:P.n<=60) (hm:P.m<=300) (hq1:1<=q) (hq2:q<=200) (qa:∀ i,i<P.m->∀ j,j<P.n->QB q (P.A i j)):Calls Tryz.prog 75 #[.agg #[.int .i64 (P.n:Int),vr,vc],vx] w (Ret w (.tuple #[.slice none 0 0,.int .i64 (lerr t m P.n)])):=by
 have HPM:=Hi31 hP;have HT:=Hi31 hT;have HTS:=Hi31 hts;have HG:=Hi31 g;have HQA:=Hi31 qa;have HQP:=Hi31 Q;clear hP hT hts g qa Q;have HPO:=Hi31 HPM.out.obj;have HPF:=Hi31 HPM.out.fac;obtain ⟨co,ccap,ec_,_⟩:=HPM.out.obj;obtain ⟨ro,rcap,er_,_,_,hrr⟩:=HPM.out.rows;subst er_ ec_;have HRR:=Hi31 hrr;clear hrr;go_enter Tryz.func75,Tryz.ntmps75;go_wp2_with fail;refine (check_go P _ _ va _ (HG.out.ext (((Ext.refl w).alloc _))) (HPM.out.ext ((Ext.refl w).alloc _)) HQP.out hn hm).mono ?_;rintro e w1 ⟨rfl,e1⟩;have HX1:Hid (Ext w w1):=Hi31 (((Ext.refl w).alloc _).trans e1);have HB0_1:Hid (Blk w1 (w.heap.size) (#[.int .i64 (P.n:Int),.slice ro P.m rcap,.slice co P.n ccap]) 32):=Hi31 (((Blk.nw (#[.int .i64 (P.n:Int),.slice ro P.m rcap,.slice co P.n ccap]) 32)).ext e1);have HGEB0:Hid (w.heap.size<=w.heap.size):=Hi31 (Nat.le_refl _);clear e1;have hz2:¬ lerr t m P.n=0:=hle;have c0_0:=HB0_1.out.cell 0 rfl;go_wp2_with fail;refine (plist_c (HG.out.ext (HX1.out)) (HT.out.ext HX1.out) HTS.out hm6).mono ?_;rintro e w2 ⟨rfl,e2⟩;have HX2:=Hi31 (HX1.out.trans e2);clear e2 c0_0;go_wp2;go_ret2;exact ⟨rfl,HX2.out⟩
def ntz0 (t:ByteArray):Bool:=decide (t≠⟨#[48]⟩)
theorem sgn_negb (x:Rat):decide (x.num<0)=decide (x<0):=decide_eq_decide.2 ⟨fun h=>(Rat.lt_iff x 0).2 (by simpa using h),fun h=>by have:=(Rat.lt_iff x 0).1 h;simpa using this⟩
theorem sneg_c (x:Rat) (w:World):Calls Tryz.prog 213 #[.string (qs x)] w (Ret w (.bool (decide (x<0)))):=by
 go_enter Tryz.func213,Tryz.ntmps213;go_wp2_with fail;refine (rsign_c x _).mono ?_;rintro e _ ⟨rfl,rfl⟩;go_wp2;go_ret;exact ⟨by rw [← sgn_negb];rfl,(Ext.refl w)⟩
theorem snz_c (t:ByteArray) (w:World):Calls Tryz.prog 141 #[.string t] w (Ret w (.bool (ntz0 t))):=by
 go_enter Tryz.func141,Tryz.ntmps141;by_cases hz:t=⟨#[48]⟩
 ·go_wp2;go_ret;exact ⟨by rw [ntz0,decide_eq_false (fun h=>h hz)];rfl,(Ext.refl w)⟩
 ·have hz2:(t.toList == [48])=false:=tl_ne hz;go_wp2;go_ret;exact ⟨by rw [ntz0,decide_eq_true hz];rfl,(Ext.refl w)⟩
theorem neg_any {w:World} {v:Value} {m:Nat} {y:Nat->Rat} (h:Rq w v m y) (hm:m<=1000000):Calls Tryz.prog 112 #[v,.func (.func 213) #[] #[]] w (Ret w (.bool (any_ (fun i=>decide (y i<0)) m))):=by
 obtain ⟨ao,cap,rfl,_,_,hc⟩:=h;exact cf1_g ao m cap 213 #[] (fun i => .string (qs (y i))) (fun i=>decide (y i<0)) w hc (fun W _ k _=>sneg_c (y k) W) hm (fun _ _=>by kernel_rfl)
theorem nz_any {w:World} {v:Value} {m:Nat} {t:Nat->ByteArray} (h:Rs w v m t) (hm:m<=1000000):Calls Tryz.prog 112 #[v,.func (.func 141) #[] #[]] w (Ret w (.bool (any_ (fun i=>ntz0 (t i)) m))):=by
 obtain ⟨ao,cap,rfl,_,_,hc⟩:=h;exact cf1_g ao m cap 141 #[] (fun i => .string (t i)) (fun i=>ntz0 (t i)) w hc (fun W _ k _=>snz_c (t k) W) hm (fun _ _=>by kernel_rfl)
def sfa (P:LP) (y:Nat->Rat) (k j:Nat):Rat:=smq k (fun i=>y i*P.A i j)
theorem sfa_zero {P:LP} {y:Nat->Rat} {j:Nat}:sfa P y 0 j=0:=rfl
theorem sfa_end {P:LP} {y:Nat->Rat} {j:Nat}:sfa P y P.m j=P.comb y j:=rfl
theorem sfa_set {P:LP} {y:Nat->Rat} {k j n:Nat} {C:Array Value} (h:∀ i,i<n->C[i]?=some (.string (qs (if i<j then sfa P y (k+1) i else sfa P y k i)))) :
    ∀ i,i<n->(C.setIfInBounds j (.string (qs (sfa P y k j+y k*P.A k j))))[i]?=some (.string (qs (if i<j+1 then sfa P y (k+1) i else sfa P y k i))) :=
 cell_upd h (fun _=>by rw [if_pos (by omega)];rfl) (fun i _ hne=>by
  by_cases h1:i<j
  ·rw [if_pos h1,if_pos (by omega)]
  ·rw [if_neg h1,if_neg (by omega)])
theorem plist_y {w:World} {v:Value} {n:Nat} {a:Nat->Rat} (h:Rq w v n a) (g:Gd w) (hq:∀ i,i<n->QB 200 (a i)) (hn:n<=1000000):Calls Tryz.prog 120 #[v,.int .i64 (n:Int)] w (Ret w (.int .i64 0)):=by
 have:=plist_c (k:=n) (t:=fun i=>qs (a i)) g h (fun i hi=>(hq i hi).sz (Nat.le_refl _)) hn;rwa [lerr,if_neg (fun h=>h rfl),if_neg (by rw [Bool.not_eq_true,any_false];intro i hi;simp [rq_qs (hq i hi)])] at this
def SumP (P:LP) (y:Nat->Rat) (w:World) (e:Ending) (w':World):Prop:=∃ vf,e = .returned (.tuple #[vf,.string (qs (P.bnd y)),.int .i64 0])/\Ext w w'/\Nq w w' vf P.n (P.comb y)
theorem sums_ok (P:LP) (vr vc:Value) (va:Nat->Value) (q:Nat) (w:World) (g:Gd w) (hP:PM P w vr vc va) (vy:Value) (y:Nat->Rat) (r:Nat) (hy:Rq w vy P.m y) (hr:∀ i,i<P.m->QB r (y i)) (hr2:r<=200) (hsz:P.m*(r+q+1)<=198) (qb:∀ i,i<P.m->QB q (P.B i)) (hnn:any_ (fun i=>decide (y i<0)) P.m=false) (Q:PQ P) (hn:P.n<=60) (hm:P.m<=300) (hq1:1<=q) (hq2:q<=200) (qa:∀ i,i<P.m->∀ j,j<P.n->QB q (P.A i j)):Calls Tryz.prog 140 #[.agg #[.int .i64 (P.n:Int),vr,vc],.agg #[vy]] w (SumP P y w):=by
 have HPM:=Hi31 hP;have HNN:=Hi31 hnn;have HYR:=Hi31 hy;have HYQ:=Hi31 hr;have HQB:=Hi31 qb;have HG:=Hi31 g;have HQA:=Hi31 qa;have HQP:=Hi31 Q;clear hP hnn hy hr qb g qa Q;have hm6:P.m<=1000000:=by omega
 have HSB:Hid (∀ k,k<=P.m->QB 199 (smq k (fun i=>y i*P.B i))):=Hi31 (fun k hk=>(smq_qb HYQ.out HQB.out k hk).mono (dot_sz hk hsz));have HSA:Hid (∀ k,k<=P.m->∀ j,j<P.n->QB 199 (sfa P y k j)):=Hi31 (fun k hk j hj=>(smq_qb HYQ.out (fun i hi=>HQA.out i hi j hj) k hk).mono (dot_sz hk hsz));have HPO:=Hi31 HPM.out.obj;have HPF:=Hi31 HPM.out.fac;obtain ⟨co,ccap,ec_,_⟩:=HPM.out.obj;obtain ⟨ro,rcap,er_,_,_,hrr⟩:=HPM.out.rows;subst er_ ec_;have HRR:=Hi31 hrr;clear hrr;have HY0:=Hi31 HYR.out;obtain ⟨yo,ycap,ey_,_,_,hyy⟩:=HYR.out;subst ey_;have HYY:=Hi31 hyy;clear hyy;go_enter Tryz.func140,Tryz.ntmps140;go_wp2_with fail;refine (plist_y (HY0.out.ext (((Ext.refl w).alloc _).alloc _)) (HG.out.ext ((((Ext.refl w).alloc _).alloc _))) (fun j hj=>(HYQ.out j hj).mono hr2) hm6).mono ?_;rintro e w1 ⟨rfl,e1⟩;have HX1:Hid (Ext w w1):=Hi31 ((((Ext.refl w).alloc _).alloc _).trans e1);have HB0_1:Hid (Blk w1 (w.heap.size) (#[.int .i64 (P.n:Int),.slice ro P.m rcap,.slice co P.n ccap]) 32):=Hi31 ((((Blk.nw (#[.int .i64 (P.n:Int),.slice ro P.m rcap,.slice co P.n ccap]) 32).alloc _)).ext e1);have HB1_1:Hid (Blk w1 (w.heap.size+1) (#[.slice yo P.m ycap]) 36):=Hi31 (((Blk.nw (#[.slice yo P.m ycap]) 36)).ext e1);have HGEB0:Hid (w.heap.size<=w.heap.size):=Hi31 (Nat.le_refl _);have HGEB1:Hid (w.heap.size<=w.heap.size+1):=Hi31 (by omega);clear e1;have c1_0:=HB1_1.out.cell 0 rfl;go_wp2_with fail;refine ((HNN.out▸neg_any (HY0.out.ext HX1.out) hm6)).mono ?_;rintro e w2 ⟨rfl,e2⟩;have HX2:=Hi31 (HX1.out.trans e2);have HB0_2:=Hi31 (HB0_1.out.ext e2);have HB1_2:=Hi31 (HB1_1.out.ext e2);clear e2 c1_0;have c0_0:=HB0_2.out.cell 0 rfl;go_wp2_with fail;refine (zeros_c P.n (by omega) _).mono ?_;rintro e w3 ⟨kz1,CZ1,rfl,e3,g_,b_,c_⟩;have HNB0Bz1:Hid (w.heap.size≠kz1):=Hi31 (Nat.ne_of_lt (Nat.lt_of_lt_of_le HB0_2.out.lt g_));have HNB1Bz1:Hid (w.heap.size+1≠kz1):=Hi31 (Nat.ne_of_lt (Nat.lt_of_lt_of_le HB1_2.out.lt g_));have HGEBz1:Hid (w.heap.size<=kz1):=Hi31 (Nat.le_trans HX2.out.size g_);have HX3:=Hi31 (HX2.out.trans e3);have HB0_3:=Hi31 (HB0_2.out.ext e3);have HB1_3:=Hi31 (HB1_2.out.ext e3);clear e3 c0_0;have HBz1_3:=Hi31 b_;have HCBz1:=Hi31 c_;clear g_ b_ c_;have c1_0:=HB1_3.out.cell 0 rfl;go_wp2_with fail;clear c1_0;go_loopw [30,5] (fun x0_ x1_ wx=>∃ k:Nat,x0_ = .int .i64 k/\x1_ = .string (qs (smq k (fun i=>y i*P.B i)))/\k<=P.m/\Hid (Ext w wx/\Blk wx (w.heap.size) (#[.int .i64 (P.n:Int),.slice ro P.m rcap,.slice co P.n ccap]) 32/\Blk wx (w.heap.size+1) (#[.slice yo P.m ycap]) 36/\(∃ CK,Blk wx kz1 CK 34/\∀ j,j<P.n->CK[j]?=some (.string (qs (sfa P y k j)))))) (fun x0_ _ _=>P.m-(intOf x0_).toNat)
 case atStart=>exact ⟨0,rfl,by simp only [smq];rw [qs_zero],Nat.zero_le _,Hi31 ⟨HX3.out,HB0_3.out,HB1_3.out,⟨_,HBz1_3.out,fun j hj=>by rw [sfa_zero,qs_zero];exact HCBz1.out j hj⟩⟩⟩
 case round =>
  rename World=>w4
  obtain ⟨k,rfl,rfl,hkk,HH⟩:=hrel;have HX4:=Hi31 HH.out.1;have HB0_4:=Hi31 HH.out.2.1;have HB1_4:=Hi31 HH.out.2.2.1;obtain ⟨CK,a1_,a2_⟩:=HH.out.2.2.2;have HBz1_4:=Hi31 a1_;have HCK:=Hi31 a2_;clear a1_ a2_;clear HH;by_cases hlt:k<P.m
  ·have hlt2:(k:Int)<((P.m:Nat):Int):=by omega
   have hltk:k<P.m:=hlt;obtain ⟨ra,o_,rfl,zr_,zs_⟩:=HRR.out k hlt;obtain ⟨fo,fcap,ef_,_,_,hff_⟩:=HPF.out k hlt;rw [ef_] at zr_;have HFF:=Hi31 hff_;obtain ⟨ya,rfl,zy_⟩:=HYY.out k hlt;have HCr:=Hi31 zr_;have HCs:=Hi31 zs_;have HCy:=Hi31 zy_;clear zr_ zs_ ef_ hff_ zy_;have cy_k:=keepA HX4.out (HCy.out);have c0_1:=HB0_4.out.cell 1 rfl;have cr_o____k___2___1:=keepA HX4.out (HCs.out);go_wp2_with fail;refine (rmul_c (y k) (P.B k) _ (HG.out.ext (HX4.out)) (HYQ.out k hltk) (HQB.out k hlt) (by omega) (by omega)).mono ?_;rintro e w5 ⟨rfl,e5⟩;have HX5:=Hi31 (HX4.out.trans e5);have HB0_5:=Hi31 (HB0_4.out.ext e5);have HB1_5:=Hi31 (HB1_4.out.ext e5);have HBz1_5:=Hi31 (HBz1_4.out.ext e5);clear e5 cy_k c0_1 cr_o____k___2___1;go_wp2_with fail;refine (radd_c (smq k (fun i=>y i*P.B i)) (y k*P.B k) _ (HG.out.ext (HX5.out)) (HSB.out k (by omega)) ((HYQ.out k hltk).mul (HQB.out k hlt)) (by omega) (by omega)).mono ?_;rintro e w6 ⟨rfl,e6⟩;have HX6:=Hi31 (HX5.out.trans e6);have HB0_6:=Hi31 (HB0_5.out.ext e6);have HB1_6:=Hi31 (HB1_5.out.ext e6);have HBz1_6:=Hi31 (HBz1_5.out.ext e6);clear e6;have c0_1:=HB0_6.out.cell 1 rfl;have cr_o____k___2:=keepA HX6.out (HCr.out);go_wp2_with fail;clear c0_1 cr_o____k___2;go_loopw [52] (fun x0_ wx=>∃ j:Nat,x0_ = .int .i64 j/\j<=P.n/\Hid (Ext w wx/\Blk wx (w.heap.size) (#[.int .i64 (P.n:Int),.slice (some ⟨ra,o_,none⟩) P.m rcap,.slice co P.n ccap]) 32/\Blk wx (w.heap.size+1) (#[.slice (some ya) P.m ycap]) 36/\(∃ CJ,Blk wx kz1 CJ 34/\∀ i,i<P.n->CJ[i]?=some (.string (qs (if i<j then sfa P y (k+1) i else sfa P y k i)))))) (fun x0_ _=>P.n-(intOf x0_).toNat)
   case atStart=>exact ⟨0,rfl,Nat.zero_le _,Hi31 ⟨HX6.out,HB0_6.out,HB1_6.out,⟨_,HBz1_6.out,fun i hi=>by rw [if_neg (Nat.not_lt_zero i)];exact HCK.out i hi⟩⟩⟩
   case round =>
    rename World=>w7
    obtain ⟨j,rfl,hkj,HH⟩:=hrel;have HX7:=Hi31 HH.out.1;have HB0_7:=Hi31 HH.out.2.1;have HB1_7:=Hi31 HH.out.2.2.1;obtain ⟨CJ,a1_,a2_⟩:=HH.out.2.2.2;have HBz1_7:=Hi31 a1_;have HCJ:=Hi31 a2_;clear a1_ a2_;clear HH;by_cases hlt:j<P.n
    ·have hlt2:(j:Int)<((P.n:Nat):Int):=by omega
     obtain ⟨fa,rfl,zf_⟩:=HFF.out j hlt;have HCf:=Hi31 zf_;have zj_:=HCJ.out j hlt;rw [if_neg (by omega)] at zj_;have HCj:=Hi31 zj_;clear zf_ zj_;have cf_j:=keepA HX7.out (HCf.out);go_wp2_with fail;clear cf_j;refine region_e [.val (.slice (some ⟨kz1,0,none⟩) P.n P.n),.val (.int .i64 (j:Int)),.val (.slice (some ⟨kz1,0,none⟩) P.n P.n),.val (.int .i64 (j:Int)),.val (.pointer (some ⟨kz1,j,none⟩)),.val (.string (qs (sfa P y k j))),.val (.string (qs (y k))),.val (.string (qs (P.A k j))),.val (.string (qs (y k*P.A k j))),.val (.string (qs (sfa P y k j+y k*P.A k j))),.val (.pointer (some ⟨kz1,j,none⟩)),.eff] (fun L g W=>(if L 11=true then Blk W (kz1) ((CJ).setIfInBounds j (.string (qs (sfa P y k j+y k*P.A k j)))) 34 else Blk W (kz1) (CJ) 34)) (S:=fun k=>k=kz1) (by kernel_rfl) (by kernel_rfl) (by kernel_rfl) (Mv.refl HX7.out (fun k h=>(fun e=>Nat.le_trans (show w.heap.size<=kz1 from HGEBz1.out) (Nat.le_of_eq e.symm)) h)) ?_ ?_ ?_ ?_ (fun gv_ w8 hm_ he_=>?_)
     ·exact fun gz_=>(by rw [if_neg (by decide)];exact HBz1_7.out.drew)
     ·exact fun L g W W1 h e=>ite_ext (h) (fun h=>h.ext e) (fun h=>h.ext e)
     ·intro i v L g W hi h;have n11_:i≠11:=fun e=>by subst e;exact absurd (show false=true from hi) (by decide)
      simp only [up_ne n11_,ug_ne n11_];exact h
     ·skip
      refine RI 4 (.slice (some ⟨kz1,0,none⟩) P.n P.n)<|RI 10 (.int .i64 (j:Int))<|RI 4 (.slice (some ⟨kz1,0,none⟩) P.n P.n)<|RI 10 (.int .i64 (j:Int))<|R2 2 3 ?_;refine RV (fun A_ hs_ K_ hK_=>?_) ?_;· have q61_:=hs_.val 4;have n11_:=hs_.no 11 (by decide) (by kernel_rfl);have e11_:=hs_.e;rw [if_neg (by rw [n11_];decide)] at e11_;have cz1_j:=e11_.cell (j) HCj.out;clear e11_ n11_;go_simp;exact fin_ hK_
      refine RI 9 (.string (qs (y k)))<|RI 11 (.string (qs (P.A k j))) ?_;refine RV (fun A_ hs_ K_ hK_=>?_) ?_;· have q63_:=hs_.val 6;have q64_:=hs_.val 7;go_simp;refine (rmul_c (y k) (P.A k j) _ (HG.out.ext hs_.mv.ext) (HYQ.out k hltk) (HQA.out k hltk j hlt) (by omega) (by omega)).mono ?_;rintro e W9_ ⟨rfl,e9_⟩;exact hK_.out _ e9_
      refine RV (fun A_ hs_ K_ hK_=>?_) ?_;· have q62_:=hs_.val 5;have q65_:=hs_.val 8;go_simp;refine (radd_c (sfa P y k j) (y k*P.A k j) _ (HG.out.ext hs_.mv.ext) (HSA.out k (by omega) j hlt) ((HYQ.out k hltk).mul (HQA.out k hltk j hlt)) (by omega) (by omega)).mono ?_;rintro e W9_ ⟨rfl,e9_⟩;exact hK_.out _ e9_
      refine R2 0 1 ?_;refine RnEL.cons (fun L_ g_ A_ W_ hs_=>?_) ?_
      ·have q67_:=hs_.val 10;have q66_:=hs_.val 9;refine RnE.eff fun K_ hK_=>?_;have n_:=hs_.not;have e_:=hs_.e;rw [if_neg (by rw [n_];decide)] at e_;have c_0:=e_.cell (j) HCj.out;have f_0:=e_.free j;have HE_:=Hi31 e_;have HM_:=Hi31 hs_.mv;have HEE_:=Hi31 hs_.e;clear e_ n_;go_simp;exact hK_.out undef _ (HM_.out.setCell (Or.inl (rfl)) _) (by rw [up_at,if_pos rfl];exact (HE_.out.set j _))
      exact RnEL.nil
     simp only [fse,Ke.value,puts,Act.put,List.setIfInBounds_toArray,List.set_cons_zero,List.set_cons_succ];have HX8:Hid (Ext w w8):=Hi31 hm_.ext;have HB0_8:=Hi31 (hm_.blk HB0_7.out (fun h=>((show w.heap.size≠kz1 from HNB0Bz1.out)) h));have HB1_8:=Hi31 (hm_.blk HB1_7.out (fun h=>((show w.heap.size+1≠kz1 from HNB1Bz1.out)) h));have HBz1_8:Hid (Blk w8 (kz1) ((CJ).setIfInBounds j (.string (qs (sfa P y k j+y k*P.A k j)))) 34):=Hi31 (by have h_:=he_;rw [if_pos rfl] at h_;exact h_);clear hm_ he_;go_wp2_with fail;go_roundw
     case rel=>exact ⟨j+1,by go_num,by omega,Hi31 ⟨HX8.out,HB0_8.out,HB1_8.out,⟨_,HBz1_8.out,sfa_set HCJ.out⟩⟩⟩
     case measure=>simp [intOf];omega
    ·have hk2:j=P.n:=by omega
     have hge:¬ (j:Int)<((P.n:Nat):Int):=by omega
     go_wp2_with fail;go_roundw
     case rel=>exact ⟨k+1,by go_num,rfl,by omega,Hi31 ⟨HX7.out,HB0_7.out,HB1_7.out,⟨_,HBz1_7.out,fun i hi=>by rw [HCJ.out i hi,if_pos (by omega)]⟩⟩⟩
     case measure=>simp [intOf];omega
  ·have hk2:k=P.m:=by omega
   have hge:¬ (k:Int)<((P.m:Nat):Int):=by omega
   go_wp2;go_ret3;exact ⟨_,rfl,HX4.out,_,_,rfl,HGEBz1.out,HBz1_4.out,fun j hj=>by rw [HCK.out j hj,hk2,sfa_end]⟩
theorem sums_e1 (P:LP) (vr vc:Value) (va:Nat->Value) (q:Nat) (w:World) (g:Gd w) (hP:PM P w vr vc va) (vy:Value) (m:Nat) (t:Nat->ByteArray) (hT:Rs w vy m t) (hts:∀ i,i<m->(t i).size<=1000000) (hm6:m<=1000000) (hle:lerr t m P.m≠0) (Q:PQ P) (hn:P.n<=60) (hm:P.m<=300) (hq1:1<=q) (hq2:q<=200) (qa:∀ i,i<P.m->∀ j,j<P.n->QB q (P.A i j)):Calls Tryz.prog 140 #[.agg #[.int .i64 (P.n:Int),vr,vc],.agg #[vy]] w (Ret w (.tuple #[.slice none 0 0,.string ⟨#[]⟩,.int .i64 (lerr t m P.m)])):=by
 have HPM:=Hi31 hP;have HT:=Hi31 hT;have HTS:=Hi31 hts;have HG:=Hi31 g;have HQA:=Hi31 qa;have HQP:=Hi31 Q;clear hP hT hts g qa Q;have HPO:=Hi31 HPM.out.obj;have HPF:=Hi31 HPM.out.fac;obtain ⟨co,ccap,ec_,_⟩:=HPM.out.obj;obtain ⟨ro,rcap,er_,_,_,hrr⟩:=HPM.out.rows;subst er_ ec_;have HRR:=Hi31 hrr;clear hrr;obtain ⟨yo,ycap,ey_,_,_,hyy⟩:=HT.out;subst ey_;clear hyy;go_enter Tryz.func140,Tryz.ntmps140;have hz2:¬ lerr t m P.m=0:=hle;go_wp2_with fail;refine (plist_c (HG.out.ext ((((Ext.refl w).alloc _).alloc _))) (HT.out.ext (((Ext.refl w).alloc _).alloc _)) HTS.out hm6).mono ?_;rintro e w1 ⟨rfl,e1⟩;have HX1:Hid (Ext w w1):=Hi31 ((((Ext.refl w).alloc _).alloc _).trans e1);clear e1;go_wp2;go_ret3;exact ⟨rfl,HX1.out⟩
theorem sums_e2 (P:LP) (vr vc:Value) (va:Nat->Value) (q:Nat) (w:World) (g:Gd w) (hP:PM P w vr vc va) (vy:Value) (y:Nat->Rat) (r:Nat) (hy:Rq w vy P.m y) (hr:∀ i,i<P.m->QB r (y i)) (hr2:r<=200) (hnn:any_ (fun i=>decide (y i<0)) P.m=true) (Q:PQ P) (hn:P.n<=60) (hm:P.m<=300) (hq1:1<=q) (hq2:q<=200) (qa:∀ i,i<P.m->∀ j,j<P.n->QB q (P.A i j)):Calls Tryz.prog 140 #[.agg #[.int .i64 (P.n:Int),vr,vc],.agg #[vy]] w (Ret w (.tuple #[.slice none 0 0,.string ⟨#[]⟩,.int .i64 3])):=by
 have HPM:=Hi31 hP;have HNN:=Hi31 hnn;have HYR:=Hi31 hy;have HYQ:=Hi31 hr;have HG:=Hi31 g;have HQA:=Hi31 qa;have HQP:=Hi31 Q;clear hP hnn hy hr g qa Q;have hm6:P.m<=1000000:=by omega
 have HPO:=Hi31 HPM.out.obj;have HPF:=Hi31 HPM.out.fac;obtain ⟨co,ccap,ec_,_⟩:=HPM.out.obj;obtain ⟨ro,rcap,er_,_,_,hrr⟩:=HPM.out.rows;subst er_ ec_;have HRR:=Hi31 hrr;clear hrr;have HY0:=Hi31 HYR.out;obtain ⟨yo,ycap,ey_,_,_,hyy⟩:=HYR.out;subst ey_;have HYY:=Hi31 hyy;clear hyy;go_enter Tryz.func140,Tryz.ntmps140;go_wp2_with fail;refine (plist_y (HY0.out.ext (((Ext.refl w).alloc _).alloc _)) (HG.out.ext ((((Ext.refl w).alloc _).alloc _))) (fun j hj=>(HYQ.out j hj).mono hr2) hm6).mono ?_;rintro e w1 ⟨rfl,e1⟩;have HX1:Hid (Ext w w1):=Hi31 ((((Ext.refl w).alloc _).alloc _).trans e1);have HB1_1:Hid (Blk w1 (w.heap.size+1) (#[.slice yo P.m ycap]) 36):=Hi31 (((Blk.nw (#[.slice yo P.m ycap]) 36)).ext e1);have HGEB1:Hid (w.heap.size<=w.heap.size+1):=Hi31 (by omega);clear e1;have c1_0:=HB1_1.out.cell 0 rfl;go_wp2_with fail;refine ((HNN.out▸neg_any (HY0.out.ext HX1.out) hm6)).mono ?_;rintro e w2 ⟨rfl,e2⟩;have HX2:=Hi31 (HX1.out.trans e2);clear e2 c1_0;go_wp2;go_ret3;exact ⟨rfl,HX2.out⟩
noncomputable def qv (t:ByteArray):Rat:=open Classical in if h:∃ x,t=qs x then h.choose else 0
theorem qv_qs (x:Rat):qv (qs x)=x:=by
 have h:∃ z,qs x=qs z:=⟨x,rfl⟩
 rw [qv,dif_pos h];exact (qs_inj.1 h.choose_spec).symm
noncomputable abbrev yq (t:Nat->ByteArray) (i:Nat):Rat:=qv (t i)
noncomputable def merr (t:Nat->ByteArray) (m k:Nat):Int:=if lerr t m k≠0 then lerr t m k else if any_ (fun i=>decide (yq t i<0)) m=true then 3 else 0
def TxQ (t:Nat->ByteArray) (m r:Nat):Prop:=∀ i,i<m->rq (t i)=true->∃ x,t i=qs x/\QB r x
theorem lerr_ok {t:Nat->ByteArray} {m k r:Nat} (h:lerr t m k=0) (hq:TxQ t m r):m=k/\∀ i,i<m->t i=qs (yq t i)/\QB r (yq t i):=by
 rw [lerr] at h;split at h
 ·cases h
 ·rename_i h1;split at h
  ·cases h
  ·rename_i h2;refine ⟨Classical.not_not.1 h1,fun i hi=>?_⟩;rw [Bool.not_eq_true,any_false] at h2;obtain ⟨x,hx,hb⟩:=hq i hi (by have:=h2 i hi;simpa using this);rw [yq,hx,qv_qs];exact ⟨rfl,hb⟩
def SumsQ (P:LP) (t:Nat->ByteArray) (m:Nat) (w:World) (e:Ending) (w':World):Prop:=Ext w w' /\
 ((e = .returned (.tuple #[.slice none 0 0,.string ⟨#[]⟩,.int .i64 (merr t m P.m)])/\merr t m P.m≠0) ∨
  (∃ vf,e = .returned (.tuple #[vf,.string (qs (P.bnd (yq t))),.int .i64 0])/\merr t m P.m=0/\(∀ i,i<P.m->QB 200 (yq t i))/\Nq w w' vf P.n (P.comb (yq t))))
theorem sums_c (P:LP) (vr vc:Value) (va:Nat->Value) (q:Nat) (w:World) (g:Gd w) (hP:PM P w vr vc va) (vy:Value) (m:Nat) (t:Nat->ByteArray) (r:Nat) (hT:Rs w vy m t) (hts:∀ i,i<m->(t i).size<=1000000) (hm6:m<=1000000) (hq:TxQ t m r) (hr2:r<=200) (hsz:P.m*(r+q+1)<=198) (qb:∀ i,i<P.m->QB q (P.B i))
    (Q:PQ P) (hn:P.n<=60) (hm:P.m<=300) (hq1:1<=q) (hq2:q<=200) (qa:∀ i,i<P.m->∀ j,j<P.n->QB q (P.A i j)):Calls Tryz.prog 140 #[.agg #[.int .i64 (P.n:Int),vr,vc],.agg #[vy]] w (SumsQ P t m w):=by
 by_cases hle:lerr t m P.m=0
 ·obtain ⟨rfl,hx⟩:=lerr_ok hle hq;have hy:Rq w vy P.m (yq t):=hT.congr fun i hi=>by rw [← (hx i hi).1]
  by_cases hnn:any_ (fun i=>decide (yq t i<0)) P.m=true
  ·refine (sums_e2 P vr vc va q w g hP vy (yq t) r hy (fun i hi=>(hx i hi).2) hr2 hnn Q hn hm hq1 hq2 qa).mono ?_;rintro e w' ⟨rfl,e1⟩;have:merr t P.m P.m=3:=by rw [merr,if_neg (fun h=>h hle),if_pos hnn]
   exact ⟨e1,Or.inl ⟨by rw [this],by rw [this];decide⟩⟩
  ·refine (sums_ok P vr vc va q w g hP vy (yq t) r hy (fun i hi=>(hx i hi).2) hr2 hsz qb (by simpa using hnn) Q hn hm hq1 hq2 qa).mono ?_;rintro e w' ⟨vf,rfl,e1,h1⟩;exact ⟨e1,Or.inr ⟨vf,rfl,by rw [merr,if_neg (fun h=>h hle),if_neg hnn],fun i hi=>(hx i hi).2.mono hr2,h1⟩⟩
 ·refine (sums_e1 P vr vc va q w g hP vy m t hT hts hm6 hle Q hn hm hq1 hq2 qa).mono ?_;rintro e w' ⟨rfl,e1⟩;have:merr t m P.m=lerr t m P.m:=by rw [merr,if_pos hle]
  exact ⟨e1,Or.inl ⟨by rw [this],by rw [this];exact hle⟩⟩
noncomputable def rfc (P:LP) (t:Nat->ByteArray) (m:Nat):Int:=open Classical in if merr t m P.m≠0 then merr t m P.m else if P.bnd (yq t)<0/\(∀ j,j<P.n->P.comb (yq t) j=0) then 0 else 23
theorem sgn3 (x:Rat):(x.num.sign=-1/\x<0)∨(x.num.sign=0/\¬ x<0)∨(x.num.sign=1/\¬ x<0):=by
 by_cases h:x<0
 ·exact Or.inl ⟨num_sign_neg h,h⟩
 ·by_cases h0:x=0
  ·exact Or.inr (Or.inl ⟨by rw [h0];rfl,h⟩)
  ·exact Or.inr (Or.inr ⟨num_sign_pos (by grind),h⟩)
theorem ntz0_qs (x:Rat):ntz0 (qs x)=decide (x≠0):=by rw [ntz0,← qs_zero];exact decide_eq_decide.2 (not_congr qs_inj)
theorem nz_yes {f:Nat->Rat} {n:Nat} (h:any_ (fun i=>ntz0 (qs (f i))) n=true) (h2:∀ j,j<n->f j=0):False:=by
 obtain ⟨i,hi,e⟩:=any_true.1 h;rw [ntz0_qs,decide_eq_true_iff] at e;exact e (h2 i hi)
theorem nz_no {f:Nat->Rat} {n:Nat} (h:any_ (fun i=>ntz0 (qs (f i))) n=false):∀ j,j<n->f j=0:=fun j hj=>by
 have:=any_false.1 h j hj;rw [ntz0_qs,decide_eq_false_iff_not] at this;exact Classical.not_not.1 this
theorem prefutes_c (P:LP) (vr vc:Value) (va:Nat->Value) (q:Nat) (w:World) (g:Gd w) (hP:PM P w vr vc va) (vy:Value) (m:Nat) (t:Nat->ByteArray) (r:Nat) (hT:Rs w vy m t) (hts:∀ i,i<m->(t i).size<=1000000) (hm6:m<=1000000) (hq:TxQ t m r) (hr2:r<=200) (hsz:P.m*(r+q+1)<=198) (qb:∀ i,i<P.m->QB q (P.B i)) (Q:PQ P) (hn:P.n<=60) (hm:P.m<=300) (hq1:1<=q) (hq2:q<=200) (qa:∀ i,i<P.m->∀ j,j<P.n->QB q (P.A i j)):Calls Tryz.prog 59 #[.agg #[.int .i64 (P.n:Int),vr,vc],.agg #[vy]] w (Ret w (.int .i64 (rfc P t m))):=by
 have HPM:=Hi31 hP;have HT:=Hi31 hT;have HTS:=Hi31 hts;have HTQ:=Hi31 hq;have HQB:=Hi31 qb;have HG:=Hi31 g;have HQA:=Hi31 qa;have HQP:=Hi31 Q;clear hP hT hts hq qb g qa Q;have HPO:=Hi31 HPM.out.obj;have HPF:=Hi31 HPM.out.fac;obtain ⟨co,ccap,ec_,_⟩:=HPM.out.obj;obtain ⟨ro,rcap,er_,_,_,hrr⟩:=HPM.out.rows;subst er_ ec_;have HRR:=Hi31 hrr;clear hrr;have HT0:=Hi31 HT.out;obtain ⟨yo,ycap,ey_,_,_,hyy⟩:=HT.out;subst ey_;clear hyy;go_enter Tryz.func59,Tryz.ntmps59;go_wp2_with fail;refine (check_go P _ _ va _ (HG.out.ext ((((Ext.refl w).alloc _).alloc _))) (HPM.out.ext (((Ext.refl w).alloc _).alloc _)) HQP.out hn hm).mono ?_;rintro e w1 ⟨rfl,e1⟩;have HX1:Hid (Ext w w1):=Hi31 ((((Ext.refl w).alloc _).alloc _).trans e1);have HB0_1:Hid (Blk w1 (w.heap.size) (#[.int .i64 (P.n:Int),.slice ro P.m rcap,.slice co P.n ccap]) 32):=Hi31 ((((Blk.nw (#[.int .i64 (P.n:Int),.slice ro P.m rcap,.slice co P.n ccap]) 32).alloc _)).ext e1);have HB1_1:Hid (Blk w1 (w.heap.size+1) (#[.slice yo m ycap]) 36):=Hi31 (((Blk.nw (#[.slice yo m ycap]) 36)).ext e1);have HGEB0:Hid (w.heap.size<=w.heap.size):=Hi31 (Nat.le_refl _);have HGEB1:Hid (w.heap.size<=w.heap.size+1):=Hi31 (by omega);clear e1;have c0_0:=HB0_1.out.cell 0 rfl;have c0_1:=HB0_1.out.cell 1 rfl;have c0_2:=HB0_1.out.cell 2 rfl;have c1_0:=HB1_1.out.cell 0 rfl;go_wp2_with fail;refine (sums_c P _ _ va q _ (HG.out.ext (HX1.out)) (HPM.out.ext HX1.out) _ m t r (HT0.out.ext HX1.out) HTS.out hm6 HTQ.out hr2 hsz HQB.out HQP.out hn hm hq1 hq2 HQA.out).mono ?_;rintro e w2 ⟨e2,h_⟩;have HX2:=Hi31 (HX1.out.trans e2);have HB0_2:=Hi31 (HB0_1.out.ext e2);have HB1_2:=Hi31 (HB1_1.out.ext e2);clear e2 c0_0 c0_1 c0_2 c1_0;rcases h_ with ⟨rfl,hc⟩|⟨vf,rfl,hm0,hyq,hnq⟩
 ·have HME:=Hi31 hc;have hz2:¬ merr t m P.m=0:=hc;clear hc;go_wp2;go_ret;exact ⟨by rw [rfc,if_pos HME.out];rfl,HX2.out⟩
 ·have HM0:=Hi31 hm0;have HYQ:=Hi31 hyq;clear hm0 hyq;obtain ⟨fk,CF,rfl,gf_,bf_,cf_⟩:=hnq;have HNF:=Hi31 (⟨fk,CF,rfl,gf_,bf_,cf_⟩:Nq _ _ _ P.n (P.comb (yq t)));have HCF:=Hi31 cf_;have HBF0:=Hi31 bf_;clear gf_ bf_ cf_;go_upto_region 7 with fail
  rcases sgn3 (P.bnd (yq t)) with ⟨h1,h2⟩|⟨h1,h2⟩|⟨h1,h2⟩
  ·have HSG:=Hi31 h1;clear h1;by_cases hz:any_ (fun i=>ntz0 (qs (P.comb (yq t) i))) P.n=true
   ·have HNZ:=Hi31 hz;go_wp2_with fail;refine ((HSG.out▸rsign_c (P.bnd (yq t)) _)).mono ?_;rintro e _ ⟨rfl,rfl⟩;go_wp2_with fail;refine ((HNZ.out▸nz_any (Rd.blk HBF0.out (Nat.le_refl _) (cap_le (by omega)) HCF.out) (by omega))).mono ?_;rintro e w3 ⟨rfl,e3⟩;have HX3:=Hi31 (HX2.out.trans e3);have HBf_3:=Hi31 (HBF0.out.ext e3);clear e3;go_wp2;go_ret;exact ⟨by rw [rfc,if_neg (fun h=>h HM0.out),if_neg (fun h=>nz_yes hz h.2)];rfl,HX3.out⟩
   ·have hz3:any_ (fun i=>ntz0 (qs (P.comb (yq t) i))) P.n=false:=by simpa using hz
    have HNZ:=Hi31 hz3;go_wp2_with fail;refine ((HSG.out▸rsign_c (P.bnd (yq t)) _)).mono ?_;rintro e _ ⟨rfl,rfl⟩;go_wp2_with fail;refine ((HNZ.out▸nz_any (Rd.blk HBF0.out (Nat.le_refl _) (cap_le (by omega)) HCF.out) (by omega))).mono ?_;rintro e w3 ⟨rfl,e3⟩;have HX3:=Hi31 (HX2.out.trans e3);have HBf_3:=Hi31 (HBF0.out.ext e3);clear e3;go_wp2;go_ret;exact ⟨by rw [rfc,if_neg (fun h=>h HM0.out),if_pos ⟨h2,nz_no HNZ.out⟩];rfl,HX3.out⟩
  ·have HSG:=Hi31 h1;clear h1;go_wp2_with fail;refine ((HSG.out▸rsign_c (P.bnd (yq t)) _)).mono ?_;rintro e _ ⟨rfl,rfl⟩;go_wp2;go_ret;exact ⟨by rw [rfc,if_neg (fun h=>h HM0.out),if_neg (fun h=>absurd h.1 h2)];rfl,HX2.out⟩
  ·have HSG:=Hi31 h1;clear h1;go_wp2_with fail;refine ((HSG.out▸rsign_c (P.bnd (yq t)) _)).mono ?_;rintro e _ ⟨rfl,rfl⟩;go_wp2;go_ret;exact ⟨by rw [rfc,if_neg (fun h=>h HM0.out),if_neg (fun h=>absurd h.1 h2)];rfl,HX2.out⟩
noncomputable def bdc (P:LP) (t:Nat->ByteArray) (m:Nat):ByteArray × Int:=open Classical in if merr t m P.m≠0 then (⟨#[]⟩,merr t m P.m) else if (∀ j,j<P.n->P.comb (yq t) j=-P.C j) then (qs (-P.bnd (yq t)),0) else (⟨#[]⟩,23)
theorem merr_ok {t:Nat->ByteArray} {m k r:Nat} (h:merr t m k=0) (hq:TxQ t m r):m=k/\∀ i,i<m->t i=qs (yq t i)/\QB r (yq t i):=by
 rw [merr] at h;split at h
 ·rename_i h1;exact absurd h h1
 ·rename_i h1;exact lerr_ok (Classical.not_not.1 h1) hq
theorem sum_qb {P:LP} {t:Nat->ByteArray} {m r q:Nat} (hq:TxQ t m r) (h:merr t m P.m=0) (qb:∀ i,i<P.m->QB q (P.B i)) (hsz:P.m*(r+q+1)<=198):QB 199 (P.bnd (yq t)):=by
 obtain ⟨rfl,hx⟩:=merr_ok h hq;exact (smq_qb (fun i hi=>(hx i hi).2) qb P.m (Nat.le_refl _)).mono (dot_sz (Nat.le_refl _) hsz)
theorem gh_next {P:LP} {y:Nat->Rat} {k:Nat} (hz:P.comb y k+P.C k=0) (h:∀ j,j<k->P.comb y j=-P.C j):∀ j,j<k+1->P.comb y j=-P.C j:=fun j hj=>by
 by_cases e:j=k
 ·rw [e];grind
 ·exact h j (by omega)
theorem comb_qb {P:LP} {t:Nat->ByteArray} {m r q:Nat} (hq:TxQ t m r) (h:merr t m P.m=0) (qa:∀ i,i<P.m->∀ j,j<P.n->QB q (P.A i j)) (hsz:P.m*(r+q+1)<=198):∀ j,j<P.n->QB 199 (P.comb (yq t) j):=fun j hj=>by
 obtain ⟨rfl,hx⟩:=merr_ok h hq;exact (smq_qb (fun i hi=>(hx i hi).2) (fun i hi=>qa i hi j hj) P.m (Nat.le_refl _)).mono (dot_sz (Nat.le_refl _) hsz)
theorem pbound_c (P:LP) (vr vc:Value) (va:Nat->Value) (q:Nat) (w:World) (g:Gd w) (hP:PM P w vr vc va) (vy:Value) (m:Nat) (t:Nat->ByteArray) (r:Nat) (hT:Rs w vy m t) (hts:∀ i,i<m->(t i).size<=1000000) (hm6:m<=1000000) (hq:TxQ t m r) (hr2:r<=200) (hsz:P.m*(r+q+1)<=198) (qb:∀ i,i<P.m->QB q (P.B i)) (Q:PQ P) (hn:P.n<=60) (hm:P.m<=300) (hq1:1<=q) (hq2:q<=200) (qa:∀ i,i<P.m->∀ j,j<P.n->QB q (P.A i j)):Calls Tryz.prog 77 #[.agg #[.int .i64 (P.n:Int),vr,vc],.agg #[vy]] w (Ret w (.tuple #[.string (bdc P t m).1,.int .i64 (bdc P t m).2])):=by
 have HPM:=Hi31 hP;have HT:=Hi31 hT;have HTS:=Hi31 hts;have HTQ:=Hi31 hq;have HQB:=Hi31 qb;have HG:=Hi31 g;have HQA:=Hi31 qa;have HQP:=Hi31 Q;clear hP hT hts hq qb g qa Q;have HPO:=Hi31 HPM.out.obj;have HPF:=Hi31 HPM.out.fac;obtain ⟨co,ccap,ec_,_,_,hoo⟩:=HPM.out.obj;obtain ⟨ro,rcap,er_,_,_,hrr⟩:=HPM.out.rows;subst er_ ec_;have HRR:=Hi31 hrr;clear hrr;have HOO:=Hi31 hoo;clear hoo;have HT0:=Hi31 HT.out;obtain ⟨yo,ycap,ey_,_,_,hyy⟩:=HT.out;subst ey_;clear hyy;go_enter Tryz.func77,Tryz.ntmps77;go_wp2_with fail;refine (check_go P _ _ va _ (HG.out.ext ((((Ext.refl w).alloc _).alloc _))) (HPM.out.ext (((Ext.refl w).alloc _).alloc _)) HQP.out hn hm).mono ?_;rintro e w1 ⟨rfl,e1⟩;have HX1:Hid (Ext w w1):=Hi31 ((((Ext.refl w).alloc _).alloc _).trans e1);have HB0_1:Hid (Blk w1 (w.heap.size) (#[.int .i64 (P.n:Int),.slice ro P.m rcap,.slice co P.n ccap]) 32):=Hi31 ((((Blk.nw (#[.int .i64 (P.n:Int),.slice ro P.m rcap,.slice co P.n ccap]) 32).alloc _)).ext e1);have HB1_1:Hid (Blk w1 (w.heap.size+1) (#[.slice yo m ycap]) 36):=Hi31 (((Blk.nw (#[.slice yo m ycap]) 36)).ext e1);have HGEB0:Hid (w.heap.size<=w.heap.size):=Hi31 (Nat.le_refl _);have HGEB1:Hid (w.heap.size<=w.heap.size+1):=Hi31 (by omega);clear e1;have c0_0:=HB0_1.out.cell 0 rfl;have c0_1:=HB0_1.out.cell 1 rfl;have c0_2:=HB0_1.out.cell 2 rfl;have c1_0:=HB1_1.out.cell 0 rfl;go_wp2_with fail;refine (sums_c P _ _ va q _ (HG.out.ext (HX1.out)) (HPM.out.ext HX1.out) _ m t r (HT0.out.ext HX1.out) HTS.out hm6 HTQ.out hr2 hsz HQB.out HQP.out hn hm hq1 hq2 HQA.out).mono ?_;rintro e w2 ⟨e2,h_⟩;have HX2:=Hi31 (HX1.out.trans e2);have HB0_2:=Hi31 (HB0_1.out.ext e2);have HB1_2:=Hi31 (HB1_1.out.ext e2);clear e2 c0_0 c0_1 c0_2 c1_0;rcases h_ with ⟨rfl,hc⟩|⟨vf,rfl,hm0,hyq,hnq⟩
 ·have HME:=Hi31 hc;have hz2:¬ merr t m P.m=0:=hc;clear hc;go_wp2;go_ret2;exact ⟨by rw [bdc,if_pos HME.out];rfl,HX2.out⟩
 ·have HM0:=Hi31 hm0;have HYQ:=Hi31 hyq;clear hm0 hyq;obtain ⟨fk,CF,rfl,gf_,bf_,cf_⟩:=hnq;have HNF:=Hi31 (⟨fk,CF,rfl,gf_,bf_,cf_⟩:Nq _ _ _ P.n (P.comb (yq t)));have HCF:=Hi31 cf_;have HBF0:=Hi31 bf_;clear gf_ bf_ cf_;have HBN:=Hi31 (sum_qb HTQ.out HM0.out HQB.out hsz);have HSC:=Hi31 (comb_qb HTQ.out HM0.out HQA.out hsz);go_wp2_with fail;go_loopw [29] (fun x0_ wx=>∃ k:Nat,x0_ = .int .i64 k/\k<=P.n/\Hid (∀ j,j<k->P.comb (yq t) j=-P.C j)/\Hid (Ext w wx/\Blk wx (w.heap.size) (#[.int .i64 (P.n:Int),.slice ro P.m rcap,.slice co P.n ccap]) 32/\Blk wx (w.heap.size+1) (#[.slice yo m ycap]) 36/\Blk wx (fk) (CF) 34)) (fun x0_ _=>P.n-(intOf x0_).toNat)
  case atStart=>exact ⟨0,rfl,Nat.zero_le _,Hi31 ((fun j hj=>absurd hj (Nat.not_lt_zero j))),Hi31 ⟨HX2.out,HB0_2.out,HB1_2.out,HBF0.out⟩⟩
  case round =>
   rename World=>w3
   obtain ⟨k,rfl,hkk,HGk,HH⟩:=hrel;have HX3:=Hi31 HH.out.1;have HB0_3:=Hi31 HH.out.2.1;have HB1_3:=Hi31 HH.out.2.2.1;have HBf_3:=Hi31 HH.out.2.2.2;clear HH;by_cases hlt:k<P.n
   ·have hlt2:(k:Int)<((P.n:Nat):Int):=by omega
    obtain ⟨ca,rfl,zc_⟩:=HOO.out k hlt;have HCc:=Hi31 zc_;clear zc_;have cf_k:=HBf_3.out.cell (k) (HCF.out k hlt);go_upto_region 10 with fail
    clear cf_k;by_cases hz:P.comb (yq t) k+P.C k=0
    ·have z1:=qs_is0 hz;have HZ:=Hi31 hz;clear hz;have c0_2:=HB0_3.out.cell 2 rfl;have cc_k:=keepA HX3.out (HCc.out);go_wp2_with fail;refine (radd_c (P.comb (yq t) k) (P.C k) _ (HG.out.ext (HX3.out)) (HSC.out k hlt) ((HQP.out.C k hlt).mono (Nat.le_refl _)) (by omega) (by omega)).mono ?_;rintro e w4 ⟨rfl,e4⟩;have HX4:=Hi31 (HX3.out.trans e4);have HB0_4:=Hi31 (HB0_3.out.ext e4);have HB1_4:=Hi31 (HB1_3.out.ext e4);have HBf_4:=Hi31 (HBf_3.out.ext e4);clear e4 c0_2 cc_k;go_wp2_with fail;go_roundw
     case rel=>exact ⟨k+1,by go_num,by omega,Hi31 (gh_next HZ.out HGk.out),Hi31 ⟨HX4.out,HB0_4.out,HB1_4.out,HBf_4.out⟩⟩
     case measure=>simp [intOf];omega
    ·have z1:=qs_not0 hz;have HZ:=Hi31 hz;clear hz;have c0_2:=HB0_3.out.cell 2 rfl;have cc_k:=keepA HX3.out (HCc.out);go_wp2_with fail;refine (radd_c (P.comb (yq t) k) (P.C k) _ (HG.out.ext (HX3.out)) (HSC.out k hlt) ((HQP.out.C k hlt).mono (Nat.le_refl _)) (by omega) (by omega)).mono ?_;rintro e w4 ⟨rfl,e4⟩;have HX4:=Hi31 (HX3.out.trans e4);have HB0_4:=Hi31 (HB0_3.out.ext e4);have HB1_4:=Hi31 (HB1_3.out.ext e4);have HBf_4:=Hi31 (HBf_3.out.ext e4);clear e4 c0_2 cc_k;go_wp2;go_ret2;exact ⟨by rw [bdc,if_neg (fun h=>h HM0.out),if_neg (fun h=>HZ.out (by rw [h k hlt];grind))];rfl,HX4.out⟩
   ·have hk2:k=P.n:=by omega
    have hge:¬ (k:Int)<((P.n:Nat):Int):=by omega
    go_wp2_with fail;refine (rneg_c (P.bnd (yq t)) _ HBN.out (by omega)).mono ?_;rintro e w4 ⟨rfl,e4⟩;have HX4:=Hi31 (HX3.out.trans e4);have HB0_4:=Hi31 (HB0_3.out.ext e4);have HB1_4:=Hi31 (HB1_3.out.ext e4);have HBf_4:=Hi31 (HBf_3.out.ext e4);clear e4;go_wp2_with fail;refine (wrong_no (-P.bnd (yq t)) _ (HG.out.ext (HX4.out)) (HBN.out.neg.mono (by omega))).mono ?_;rintro e w5 ⟨rfl,e5⟩;have HX5:=Hi31 (HX4.out.trans e5);have HB0_5:=Hi31 (HB0_4.out.ext e5);have HB1_5:=Hi31 (HB1_4.out.ext e5);have HBf_5:=Hi31 (HBf_4.out.ext e5);clear e5;go_wp2;go_ret2;exact ⟨by rw [bdc,if_neg (fun h=>h HM0.out),if_pos (fun j hj=>HGk.out j (by omega))];rfl,HX5.out⟩
end Go.Proofs.YtmahadmefplbnaaGreatDoor
