/- Part 34. -/
import Derived.Test.YtmahadmefplbnaaGreatDoorQTDB
import Derived.Test.YtmahadmefplbnaaGreatDoorQTD33
import Derived.Lib.AppendZeros
set_option maxRecDepth 100000
set_option maxHeartbeats 2000000
open Go.Proofs.Tryz
set_option linter.unusedSimpArgs false
set_option linter.unusedVariables false
namespace Go.Proofs.YtmahadmefplbnaaGreatDoor
open Go Go.RowKit
def gG(is:Nat->Bool):Nat->Bool
 | 0=>false
 | k+1=>gG is k || is k
theorem any_false{is:Nat->Bool}:∀ {n:Nat},gG is n=false ↔ ∀ i,i<n->is i=false
 | 0=>⟨fun _ i hi=>ae,fun _=>rfl⟩
 | n+1=>by
  rw[gG,Bool.or_eq_false_iff,any_false];exact⟨fun⟨h1,h2⟩ i hi=>by
   by_cases e:i=n
   ·rw[e];exact h2
   ·exact h1 i ae,fun h=>⟨fun i hi=>h i ae,h n ae⟩⟩
theorem any_true{is:Nat->Bool}{n:Nat}:gG is n=true ↔ ∃ i,i<n/\is i=true:=by
 rw[← Bool.not_eq_false,any_false];exact⟨fun h=>Classical.not_not.1 (fun h'=>h (fun i hi=>by have:=fun e=>h' ⟨i,hi,e⟩;simpa using this)),fun⟨i,h1,h2⟩ h=>by rw[h i h1] at h2;cases h2⟩
theorem CT{is:Nat->Bool}{n:Nat}:decide (0<=fi is n)=gG is n:=by
 rcases j0 is n with⟨h1,h2⟩|⟨k,h1,h2,h3,_⟩
 ·rw[any_false.2 h2,h1];decide
 ·rw[any_true.2 ⟨k,h1,h3⟩,h2];simp
def wD(H:Nat->Value)(m:Nat):Prop:=∀ i,i<m->∃ s:ByteArray,H i = .string s/\rq s=true/\s.size<=1000000
def tu(X w:World)(v:Value)(n:Nat):Prop:=n<=10000/\∃ G,bh X w 34 1 v n G/\wD G n
theorem EW{s:ByteArray}(h:rq s=true)(hl:s.size<=1000000):wD (fun _ => .string s) 1:=fun _ _=>⟨s,rfl,h,hl⟩
theorem tu.cH{X w:World}{v:Value}{n:Nat}(h:tu X w v n):∃ a k c,v = .slice a k c:=let ⟨_,_,o,_⟩:=h;o.cH
theorem tu.ext{X w w':World}{v:Value}{n:Nat}(h:tu X w v n)(e:Ext w w'):tu X w' v n:=let ⟨a,G,o,r⟩:=h;⟨a,G,o.ext e,r⟩
theorem tu.not{X w:World}{v:Value}{n k:Nat}{C:Array Value}{t:TypeId}(h:tu X w v n)(b:ax w k C t)(ht:34≠t):¬ c7 v k:=let ⟨_,_,o,_⟩:=h;o.aI b ht
def E9(w:World)(e:Ending)(w':World):Prop:=∃ v n,e = .returned v/\Ext w w'/\tu w w' v n/\n<=3000
theorem tu.mono{X w W:World}{v:Value}{n:Nat}(h:tu w W v n)(e:Ext X w):tu X W v n:=by
 obtain⟨a,G,o,r⟩:=h;refine⟨a,G,?_,r⟩;rcases o with o|⟨k,cap,C,h1,h2,h3⟩
 ·exact Or.inl o
 ·exact Or.inr ⟨k,cap,C,h1,Nat.le_trans e.size h2,h3⟩
section
variable {P:Program} {X w:World} {n m c:Nat} {v:Value} {ao:Option Addr} {H:Nat->Value}
theorem fm {o:Oper} {a:Act} {Q:Exit->Act->World->Prop} {K:Act->World->Prop} {s x:Operand} (ho:o.op = .call { callee:=.builtin .append,args:=#[s,x],argTypes:=#[30,30] })
    (hs:a.eval s=v) (hx:a.eval x = .slice ao m c) (hX:Ext X w) (h:tu X w v n) (hr:Rd w (.slice ao m c) m H) (hH:wD H m) (hl:n+m<=10000)
    (hK:∀ b k c w',tu X w' (.slice b k c) (n+m)->Mv X w (c7 v) w'->K (a.put o.dst (.slice b k c)) w'):o.wp prog a w K Q:=by
 obtain⟨_,G,ho1,hG⟩:=h;have one:∀ j,j<m->(H j).oneCell'=true:=fun j hj=>by obtain⟨s,e,_⟩:=hH j hj;rw[e];rfl
 have rt:wD (app (n*1) G H) (n+m):=fun i hi=>by
  by_cases e:i<n
  ·rw[dF ae];exact hG i e
  ·rw[dw ae];have:=hH (i-n) ae;rwa[Nat.mul_one]
 have low:∀ k,c7 v k->X.heap.size<=k:=fun k hk=>(ho1.lt hk).1
 have fin0:∀ (e:m=0) (hr:(Builtin.append_ #[30,30] o.type #[v,.slice ao m c]).run prog w = .ok v w),o.wp prog a w K Q:=fun e hr=>by
  obtain⟨b,k,c',rfl⟩:=ho1.cH;unfold Oper.wp execOp;simp only[ho,resolve,invoke,builtin,Sem.run_bind,Sem.run_pure,Result.andThen_ok,List.map_toArray,List.map_cons,List.map_nil,hs,hx,hr];exact hK _ _ _ w ⟨hl,G,by rw[e,Nat.add_zero];exact ho1,by rw[e,Nat.add_zero];exact hG⟩ (Mv.refl hX low)
 obtain⟨ao',c',e1,_,_,hc⟩:=hr;cases e1;by_cases hm:m=0
 ·refine fin0 hm ?_;subst hm;obtain⟨i,hi⟩:∃ i,prog.info? 34=some i:=by
   cases h:prog.info? 34 with
   | none=>have:=dQ;rw[h] at this;cases this
   | some i=>exact⟨i,rfl⟩
  have ho2:=ho1;rcases ho2 with⟨rfl,rfl⟩|⟨k,cap,C,rfl,_,hB,hnc,_⟩
  ·cases ao <;> simp[Builtin.append_,run_underlying dC,sizeOf,typeInfo,hi,Builtin.lenOf,Builtin.firstCells,loadCells,loadCellsFrom]
  ·cases ao <;> simp[Builtin.append_,run_underlying dC,sizeOf,typeInfo,hi,Builtin.lenOf,Builtin.firstCells,loadCells,loadCellsFrom,hnc,storeCells]
 ·obtain ⟨ad,rfl,_⟩:=hc 0 ae;exact bE (X:=X) (G:=G) (H:=H) ho hs hx dC dQ rfl hX ho1 (fun _=>ae) (fun j hj=>by obtain ⟨ad',e,h⟩:=hc j ae;rw [Option.some.inj e];exact h) (fun j hj=>one j ae) (by unfold maxLen;omega) ae
   (fun b k c w' hA=>hK b k c w' ⟨hl,_,hA.own,rt⟩ hA.mv)
end
theorem oV(t:ByteArray)(w:World)(g:Gd w)(hl:t.size<=1000000):Calls prog 61 #[.string t] w (aR w (.bool (!rq t))):=by
 have HG:=aj g;clear g;go_enter func61,ntmps61;by_cases h:rq t=true
 ·go_wp2_with fail;refine cto (l7 t w HG.o hl h) fun w1 e1=>?_
  have HX1:Hid (Ext w w1):=aj ((Ext.refl w).trans e1);clear e1;go_wp2;go_ret;exact⟨by rw[h];rfl,HX1.o⟩
 ·rename _=>h0
  have h:rq t=false:=by simpa using h0
  go_wp2_with fail;refine cto (l8 t w HG.o hl h) fun w1 e1=>?_
  have HX1:Hid (Ext w w1):=aj ((Ext.refl w).trans e1);clear e1;go_wp2;go_ret;exact⟨by rw[h];rfl,HX1.o⟩
theorem DP(ao_:Option Addr)(n cap fn:Nat)(cp:Array Value)(a:Nat->Value)(is:Nat->Bool)(w:World)(hl:∀ i,i<n->∃ la,ao_=some la/\w.cell? (la.add i)=some (a i))(hcl:∀ W,Ext w W->∀ k:Nat,k<n->Calls prog fn (#[a k] ++ cp) W (aR W (.bool (is k))))(hn:n<=1000000)(hcf:∀ a_ W,(callFunc fn a_).run prog W = .ok (.enter fn a_) W):Calls prog 184 #[.slice ao_ n cap,.func (.func fn) #[] cp] w (aR w (.int .i64 (fi is n))):=by
 have HL:=aj hl;have HCL:=aj hcl;clear hl hcl;go_enter func184,ntmps184;go_wp2_with fail;go_loopw [8] (fun x0_ wx=>∃ k:Nat,x0_ = .int .i64 k/\k<=n/\Hid (∀ i,i<k->is i=false)/\Hid (Ext w wx)) (fun x0_ _=>n-(intOf x0_).toNat)
 case atStart=>exact⟨0,rfl,Nat.zero_le _,aj (fun i hi=>absurd hi (Nat.not_lt_zero i)),aj (Ext.refl w)⟩
 case round =>
  rename World=>w1
  obtain⟨k,rfl,hkk,HGk,HH⟩:=hrel;have HX1:=aj HH.o;clear HH;by_cases hlt:k<n
  ·have hlt2:(k:Int)<((n:Nat):Int):=ae;obtain⟨la,rfl,zl_⟩:=HL.o k hlt;have HCl:=aj zl_;clear zl_;by_cases hi:is k=true
   ·have HIS:=aj hi;clear hi;have cl_k:=az HX1.o (HCl.o);go_wp2_with fail;refine((HIS.o▸HCL.o _ HX1.o k hlt)).mono ?_;rintro e w2 ⟨rfl,e2⟩;have HX2:=aj (HX1.o.trans e2);clear e2 cl_k;go_wp2;go_ret;exact⟨by rw[s5 hlt HGk.o HIS.o];rfl,HX2.o⟩
   ·have HIS:Hid (is k=false):=aj (by simpa using hi);clear hi;have cl_k:=az HX1.o (HCl.o);go_wp2_with fail;refine((HIS.o▸HCL.o _ HX1.o k hlt)).mono ?_;rintro e w2 ⟨rfl,e2⟩;have HX2:=aj (HX1.o.trans e2);clear e2 cl_k;go_wp2_with fail;go_roundw
    case rel=>exact⟨k+1,by go_num,ae,aj (uz HGk.o HIS.o),aj HX2.o⟩
    case measure=>simp[intOf];omega
  ·have hk2:k=n:=ae;have hge:¬ (k:Int)<((n:Nat):Int):=ae;go_wp2;go_ret;exact⟨by rw[lA (by rw[← hk2];exact HGk.o)];rfl,HX1.o⟩
theorem uD(ao_:Option Addr)(n cap fn:Nat)(cp:Array Value)(a:Nat->Value)(is:Nat->Bool)(w:World)(hl:∀ i,i<n->∃ la,ao_=some la/\w.cell? (la.add i)=some (a i))(hcl:∀ W,Ext w W->∀ k:Nat,k<n->Calls prog fn (#[a k] ++ cp) W (aR W (.bool (is k))))(hn:n<=1000000)(hcf:∀ a_ W,(callFunc fn a_).run prog W = .ok (.enter fn a_) W):Calls prog 112 #[.slice ao_ n cap,.func (.func fn) #[] cp] w (aR w (.bool (gG is n))):=by
 have HL:=aj hl;have HCL:=aj hcl;clear hl hcl;go_enter func112,ntmps112;go_wp2_with fail;refine cto (DP ao_ n cap fn cp a is w HL.o HCL.o hn hcf) fun w1 e1=>?_
 have HX1:Hid (Ext w w1):=aj ((Ext.refl w).trans e1);clear e1;go_wp2;go_ret;exact⟨by rw[← CT];rfl,HX1.o⟩
theorem CI(n:Nat)(w:World)(hn:n<=10000):Calls prog 207 #[.slice none 0 0,.int .i64 (n:Int)] w fun e w'=>∃ a k c,e = .returned (.slice a k c)/\Ext w w'/\tu w w' (.slice a k c) 0:=by
 have B1:∀ G,wD G 0:=fun G i hi=>absurd hi (Nat.not_lt_zero i)
 by_cases h0:n=0
 ·subst h0;go_enter func207,ntmps207;go_wp2;go_ret;exact⟨_,_,_,rfl,Ext.refl _,ae,fun _ => .int .i64 0,bh.nil _ _ _ _ _,B1 _⟩
 ·have hp:0<n:=ae;obtain⟨i,hi,hz,hs,hb⟩:∃ i,prog.info? 34=some i/\i.zero=some (.string ⟨#[]⟩)/\i.size=1/\i.bytes=16:=by
   cases h:prog.info? 34 with
   | none=>have:=dQ;rw[h] at this;cases this
   | some i=>have:=dQ;rw[h] at this;simp only[Option.map_some,Option.some.injEq,Prod.mk.injEq] at this;exact⟨i,rfl,this.1,this.2.1,this.2.2⟩
  obtain⟨cap,hcap⟩:∃ cap,grownCap w n 0 34=cap:=⟨_,rfl⟩
  have hr:=Lib.run_append_nil_zeros (P:=prog) w 30 3 30 34 i (.string ⟨#[]⟩) .i64 .i64 dC ag hi hz n hp ae ae (by rw[hb];omega);rw[hcap] at hr;have hge:n<=cap:=hcap▸grownCap_ge w n 0 34;have hcm:cap<=maxLen:=hcap▸grownCap_le_maxLen w n 0 34 (by unfold maxLen;omega);have hx:Ext w (w.drew.alloc (.cells (Builtin.zeroCells (Value.string ⟨#[]⟩).cells n ++ Builtin.zeroCells (Value.string ⟨#[]⟩).cells (cap-n)) 34)):=(Ext.refl w).drew.alloc _;have ho:bh w (w.drew.alloc (.cells (Builtin.zeroCells (Value.string ⟨#[]⟩).cells n ++ Builtin.zeroCells (Value.string ⟨#[]⟩).cells (cap-n)) 34)) 34 1 (.slice (some ⟨w.heap.size,0,none⟩) 0 cap) 0 (fun _ => .int .i64 0) :=
   Or.inr ⟨_,_,_,rfl,Nat.le_refl _,ax.new _ _ _,Nat.zero_le _,hcm,by simp only[Array.size_append,size_zeroCells];show n*1+(cap-n)*1=cap*1;omega,fun i hi=>ae⟩
  have HX:=aj hx;have HO:=aj ho;have hne:¬ (n:Int)<=0:=ae;have hlt:¬ (n:Int)<0:=ae;clear hx ho hcap;go_enter func207,ntmps207;go_wp2_with (at_builtin;refine Lib.wpList_append_run _ rfl _ _ _ _ rfl _ _ rfl rfl _ _ hr ?_);clear hr;go_wp2;go_ret;exact⟨_,_,_,rfl,HX.o,ae,_,HO.o,B1 _⟩
theorem oN{w X:World}{v:Value}{n:Nat}(g:Gd w)(h:tu X w v n):Calls prog 112 #[v,.func (.func 61) #[] #[]] w (aR w (.bool false)):=by
 obtain⟨hn,G,ho,hG⟩:=h;obtain⟨ao,cap,rfl,_,_,hc⟩:=ho.rd;have:=uD ao n cap 61 #[] G (fun _=>false) w hc (fun W e k hk=>by
  obtain⟨s,e1,e2,e3⟩:=hG k hk;rw[e1];have h:=oV s W (g.ext e) e3;rw[e2] at h;exact h) ae (fun _ _=>ag)
 rwa[any_false.2 (fun _ _=>rfl)] at this
theorem zr(kq:Nat)(w:World)(o1:Option Addr)(m1 c1:Nat)(H1:Nat->Value)(o2:Option Addr)(m2 c2:Nat)(H2:Nat->Value)(o3:Option Addr)(m3 c3:Nat)(H3:Nat->Value)(bq:ax w kq #[.slice o1 m1 c1,.slice o2 m2 c2,.slice o3 m3 c3] 30)(r1:Rd w (.slice o1 m1 c1) m1 H1)(t1:wD H1 m1)(l1:m1<=1000)(r2:Rd w (.slice o2 m2 c2) m2 H2)(t2:wD H2 m2)(l2:m2<=1000)(r3:Rd w (.slice o3 m3 c3) m3 H3)(t3:wD H3 m3)(l3:m3<=1000):Calls prog 129 #[.slice (some ⟨kq,0,none⟩) 3 3] w (E9 w):=by
 have HBq:=aj bq;have HR1:=aj r1;have HR2:=aj r2;have HR3:=aj r3;have HT1:=aj t1;have HT2:=aj t2;have HT3:=aj t3;clear bq r1 r2 r3 t1 t2 t3;have z1:¬ (m1:Int)<0:=Int.not_lt.2 (Int.natCast_nonneg _);have z2:¬ (m1:Int)+(m2:Int)<0:=ae;have z3:¬ (m1:Int)+(m2:Int)+(m3:Int)<0:=ae;go_enter func129,ntmps129;go_wp2_with fail;refine wp_loop_rounds 4 ?_;rw[rounds_succ];have cq_0:=HBq.o.cell (0) rfl;go_wp2_with fail;rw[rounds_succ];clear cq_0;have cq_1:=HBq.o.cell (1) rfl;go_wp2_with fail;rw[rounds_succ];clear cq_1;have cq_2:=HBq.o.cell (2) rfl;go_wp2_with fail;rw[rounds_succ];clear cq_2;go_wp2_with fail;refine(CI (m1+m2+m3) _ ae).mono ?_;rintro e w1 ⟨ga,gn,gc,rfl,e1,ha_⟩;have HX1:Hid (Ext w w1):=aj ((Ext.refl w).trans e1);have HBq_1:=aj (HBq.o.ext e1);clear e1;have HAR1:=aj ha_;clear ha_;go_wp2_with fail;refine wp_loop_rounds 4 ?_;rw[rounds_succ];have cq_0:=HBq_1.o.cell (0) rfl;go_wp2_with (
  at_builtin;refine wpList_plain rfl fun K_ hK_=>fm (X:=w) (n:=0) (m:=m1) rfl rfl rfl HX1.o HAR1.o (HR1.o.ext HX1.o) HT1.o ae (fun a2_ n2_ c2_ w2 ha_ hm_=>hK_ _ _ ?_)
  have HX2:Hid (Ext w w2):=aj hm_.ext;have HBq_2:=aj (hm_.aF HBq_1.o (HAR1.o.not HBq_1.o af));have HAR2:=aj ha_;clear ha_ hm_ cq_0
 )
 rw[rounds_succ];have cq_1:=HBq_2.o.cell (1) rfl;go_wp2_with (
  at_builtin;refine wpList_plain rfl fun K_ hK_=>fm (X:=w) (n:=(0+m1)) (m:=m2) rfl rfl rfl HX2.o HAR2.o (HR2.o.ext HX2.o) HT2.o ae (fun a3_ n3_ c3_ w3 ha_ hm_=>hK_ _ _ ?_)
  have HX3:Hid (Ext w w3):=aj hm_.ext;have HBq_3:=aj (hm_.aF HBq_2.o (HAR2.o.not HBq_2.o af));have HAR3:=aj ha_;clear ha_ hm_ cq_1
 )
 rw[rounds_succ];have cq_2:=HBq_3.o.cell (2) rfl;go_wp2_with (
  at_builtin;refine wpList_plain rfl fun K_ hK_=>fm (X:=w) (n:=((0+m1)+m2)) (m:=m3) rfl rfl rfl HX3.o HAR3.o (HR3.o.ext HX3.o) HT3.o ae (fun a4_ n4_ c4_ w4 ha_ hm_=>hK_ _ _ ?_)
  have HX4:Hid (Ext w w4):=aj hm_.ext;have HAR4:=aj ha_;clear ha_ hm_ cq_2
 )
 rw[rounds_succ];go_wp2;go_ret;exact⟨_,_,rfl,HX4.o,HAR4.o,ae⟩
theorem o7(kd:Int)(val:ByteArray)(w:World)(g:Gd w)(o1:Option Addr)(m1 c1:Nat)(H1:Nat->Value)(o2:Option Addr)(m2 c2:Nat)(H2:Nat->Value)(o3:Option Addr)(m3 c3:Nat)(H3:Nat->Value)(r1:Rd w (.slice o1 m1 c1) m1 H1)(t1:wD H1 m1)(l1:m1<=1000)(r2:Rd w (.slice o2 m2 c2) m2 H2)(t2:wD H2 m2)(l2:m2<=1000)(r3:Rd w (.slice o3 m3 c3) m3 H3)(t3:wD H3 m3)(l3:m3<=1000)(hv:kd=1->rq val=true)(hvs:val.size<=1000000):Calls prog 49 #[.agg #[.int .i64 kd,.string val,.slice o1 m1 c1,.slice o2 m2 c2,.slice o3 m3 c3]] w (aR w (.bool true)):=by
 have HG:=aj g;have HR1:=aj r1;have HR2:=aj r2;have HR3:=aj r3;have HT1:=aj t1;have HT2:=aj t2;have HT3:=aj t3;clear g r1 r2 r3 t1 t2 t3;go_enter func49,ntmps49;go_wp2_with fail;refine(zr _ _ o1 m1 c1 H1 o2 m2 c2 H2 o3 m3 c3 H3 (ax.nw (#[.slice o1 m1 c1,.slice o2 m2 c2,.slice o3 m3 c3]) 30) (HR1.o.ext (((Ext.refl w).alloc _).alloc _)) HT1.o l1 (HR2.o.ext (((Ext.refl w).alloc _).alloc _)) HT2.o l2 (HR3.o.ext (((Ext.refl w).alloc _).alloc _)) HT3.o l3).mono ?_;rintro e w1 ⟨v_,gk,rfl,e1,ha_,hgk⟩;have HX1:Hid (Ext w w1):=aj ((((Ext.refl w).alloc _).alloc _).trans e1);have HB0_1:Hid (ax w1 (w.heap.size) (#[.int .i64 kd,.string val,.slice o1 m1 c1,.slice o2 m2 c2,.slice o3 m3 c3]) 38):=aj ((((ax.nw (#[.int .i64 kd,.string val,.slice o1 m1 c1,.slice o2 m2 c2,.slice o3 m3 c3]) 38).alloc _)).ext e1);have HB1_1:Hid (ax w1 (w.heap.size+1) (#[.slice o1 m1 c1,.slice o2 m2 c2,.slice o3 m3 c3]) 30):=aj (((ax.nw (#[.slice o1 m1 c1,.slice o2 m2 c2,.slice o3 m3 c3]) 30)).ext e1);have HGEB0:Hid (w.heap.size<=w.heap.size):=aj (Nat.le_refl _);have HGEB1:Hid (w.heap.size<=w.heap.size+1):=aj ae;clear e1;obtain⟨ga,gn,gc,rfl⟩:=ha_.cH;have HAR1:=aj (ha_.mono (((Ext.refl w).alloc _).alloc _));clear ha_;go_upto_region 2 with fail
 by_cases h1:kd=1
 ·have HV:=aj (hv h1);clear hv;have c0_0:=HB0_1.o.cell 0 rfl;have c0_1:=HB0_1.o.cell 1 rfl;go_wp2_with (
   at_builtin;refine wpList_plain rfl fun K_ hK_=>fm (X:=w) (n:=gk) (m:=1) rfl rfl rfl (HX1.o.alloc _) (HAR1.o.ext (by first|exact(Ext.refl _).alloc _|exact Ext.refl _)) (Rd.aF (ax.nw (#[.string val]) 34) (Nat.le_refl _) af (fun i hi=>by obtain rfl:i=0:=ae;rfl)) (EW HV.o hvs) ae (fun a2_ n2_ c2_ w2 ha_ hm_=>hK_ _ _ ?_)
   have HX2:Hid (Ext w w2):=aj hm_.ext;have HAR2:=aj ha_;clear ha_ hm_ c0_0 c0_1
  )
  refine cto (oN (HG.o.ext (HX2.o)) HAR2.o) fun w3 e3=>?_
  have HX3:=aj (HX2.o.trans e3);clear e3;go_wp2;go_ret;exact⟨rfl,HX3.o⟩
 ·have c0_0:=HB0_1.o.cell 0 rfl;go_wp2_with fail;refine cto (oN (HG.o.ext (HX1.o)) HAR1.o) fun w2 e2=>?_
  have HX2:=aj (HX1.o.trans e2);have HB0_2:=aj (HB0_1.o.ext e2);clear e2 c0_0;go_wp2;go_ret;exact⟨rfl,HX2.o⟩
noncomputable def fU (t:Nat->ByteArray) (m k:Nat):Int:=if m≠k then 5 else if gG (fun i=>!rq (t i)) m=true then 2 else 0
theorem DU{w:World}{v:Value}{m:Nat}{t:Nat->ByteArray}(g:Gd w)(h:Rs w v m t)(hl:∀ i,i<m->(t i).size<=1000000)(hm:m<=1000000):Calls prog 112 #[v,.func (.func 61) #[] #[]] w (aR w (.bool (gG (fun i=>!rq (t i)) m))):=by
 obtain⟨ao,cap,rfl,_,_,hc⟩:=h;exact uD ao m cap 61 #[] (fun i => .string (t i)) (fun i=>!rq (t i)) w hc (fun W e k hk=>oV (t k) W (g.ext e) (hl k hk)) hm (fun _ _=>ag)
theorem x8(ao_:Option Addr)(ac m k:Nat)(t:Nat->ByteArray)(w:World)(g:Gd w)(hr:Rs w (.slice ao_ m ac) m t)(hl:∀ i,i<m->(t i).size<=1000000)(hm:m<=1000000):Calls prog 120 #[.slice ao_ m ac,.int .i64 (k:Int)] w (aR w (.int .i64 (fU t m k))):=by
 have HG:=aj g;have HR:=aj hr;have HL:=aj hl;clear g hr hl;go_enter func120,ntmps120;by_cases h1:m≠k
 ·have h2:decide ((m:Int)=(k:Int))=false:=decide_eq_false ae;go_wp2;go_ret;exact⟨by rw[fU,if_pos h1];rfl,(Ext.refl w)⟩
 ·obtain rfl:m=k:=Classical.not_not.1 h1;by_cases h3:gG (fun i=>!rq (t i)) m=true
  ·have HAN:=aj h3;go_wp2_with fail;refine((HAN.o▸DU (HG.o.ext ((Ext.refl w))) (HR.o.ext (Ext.refl w)) HL.o hm)).mono ?_;rintro e w1 ⟨rfl,e1⟩;have HX1:Hid (Ext w w1):=aj ((Ext.refl w).trans e1);clear e1;go_wp2;go_ret;exact⟨by rw[fU,if_neg h1,if_pos h3];rfl,HX1.o⟩
  ·have h4:gG (fun i=>!rq (t i)) m=false:=by simpa using h3
   have HAN:=aj h4;go_wp2_with fail;refine((HAN.o▸DU (HG.o.ext ((Ext.refl w))) (HR.o.ext (Ext.refl w)) HL.o hm)).mono ?_;rintro e w1 ⟨rfl,e1⟩;have HX1:Hid (Ext w w1):=aj ((Ext.refl w).trans e1);clear e1;go_wp2;go_ret;exact⟨by rw[fU,if_neg h1,if_neg h3];rfl,HX1.o⟩
theorem pw{w:World}{v:Value}{m k:Nat}{t:Nat->ByteArray}(g:Gd w)(h:Rs w v m t)(hl:∀ i,i<m->(t i).size<=1000000)(hm:m<=1000000):Calls prog 120 #[v,.int .i64 (k:Int)] w (aR w (.int .i64 (fU t m k))):=by
 have h0:=h;obtain⟨ao,cap,rfl,_⟩:=h;exact x8 ao cap m k t w g h0 hl hm
theorem QB.sz{q:Nat}{x:Rat}(h:QB q x)(hq:q<=200):(qs x).size<=1000000:=h.len ae
theorem qN{w:World}{v:Value}{n:Nat}{a:Nat->Rat}(h:Rq w v n a)(g:Gd w)(hq:∀ i,i<n->QB 200 (a i))(hn:n<=60):Calls prog 120 #[v,.int .i64 (n:Int)] w (aR w (.int .i64 0)):=by
 have:=pw (k:=n) (t:=fun i=>qs (a i)) g h (fun i hi=>(hq i hi).sz (Nat.le_refl _)) ae;rwa[fU,if_neg (fun h=>h rfl),if_neg (by rw[Bool.not_eq_true,any_false];intro i hi;simp[gz (hq i hi)])] at this
theorem jD(x:Rat)(w:World)(g:Gd w)(h:QB 200 x):Calls prog 61 #[.string (qs x)] w (aR w (.bool false)):=by
 have:=oV (qs x) w g (h.sz (Nat.le_refl _));rwa[gz h] at this
structure PQ(P:LP):Prop where
 A:∀ i,i<P.m->∀ k,k<P.n->QB 200 (P.A i k)
 B:∀ i,i<P.m->QB 200 (P.B i)
 C:∀ k,k<P.n->QB 200 (P.C k)
theorem ns(P:LP)(vr0 vc:Value)(va:Nat->Value)(w:World)(g:Gd w)(hP:PM P w vr0 vc va)(Q:PQ P)(hn:P.n<=60)(hm:P.m<=300):Calls prog 47 #[.agg #[.int .i64 (P.n:Int),vr0,vc]] w (aR w (.int .i64 0)):=by
 have HG:=aj g;clear g;have HPO:=aj hP.obj;have HPF:=aj hP.j1;have HQA:=aj Q.A;have HQB:=aj Q.B;have HQC:=aj Q.C;clear Q;obtain⟨ro,rcap,rfl,_,_,hrr⟩:=hP.rows;have HRR:=aj hrr;clear hrr hP;have z1:¬ (P.n:Int)<0:=Int.not_lt.2 (Int.natCast_nonneg _);have z2:¬ (60:Int)<(P.n:Int):=ae;have z3:¬ (300:Int)<(P.m:Int):=ae;go_enter func47,ntmps47;go_wp2_with fail;refine cto (qN (HPO.o.ext ((Ext.refl w).alloc _)) (HG.o.ext (((Ext.refl w).alloc _))) HQC.o hn) fun w1 e1=>?_
 have HX1:Hid (Ext w w1):=aj (((Ext.refl w).alloc _).trans e1);have HB0_1:Hid (ax w1 (w.heap.size) (#[.int .i64 (P.n:Int),.slice ro P.m rcap,vc]) 32):=aj (((ax.nw (#[.int .i64 (P.n:Int),.slice ro P.m rcap,vc]) 32)).ext e1);have HGEB0:Hid (w.heap.size<=w.heap.size):=aj (Nat.le_refl _);clear e1;have c0_1:=HB0_1.o.cell 1 rfl;go_wp2_with fail;clear c0_1;go_loopw [32] (fun x0_ wx=>∃ k:Nat,x0_ = .int .i64 k/\k<=P.m/\Hid (Ext w wx/\ax wx (w.heap.size) (#[.int .i64 (P.n:Int),.slice ro P.m rcap,vc]) 32)) (fun x0_ _=>P.m-(intOf x0_).toNat)
 case atStart=>exact⟨0,rfl,Nat.zero_le _,aj ⟨HX1.o,HB0_1.o⟩⟩
 case round =>
  rename World=>w2
  obtain⟨k,rfl,hkk,HH⟩:=hrel;have HX2:=aj HH.o.1;have HB0_2:=aj HH.o.2;clear HH;by_cases hlt:k<P.m
  ·have hlt2:(k:Int)<((P.m:Nat):Int):=ae;obtain⟨ra,o_,rfl,zr_,zs_⟩:=HRR.o k hlt;obtain⟨fo,fcap,ef_,_⟩:=HPF.o k hlt;rw[ef_] at zr_;have HFK:=aj (ef_▸HPF.o k hlt);have HCr:=aj zr_;have HCs:=aj zs_;clear zr_ zs_ ef_;have cr_o____k___2:=az HX2.o (HCr.o);have cr_o____k___2___1:=az HX2.o (HCs.o);go_upto_region 11 with fail
   refine ay (fun W=>Ext w W/\ax W (w.heap.size) (#[.int .i64 (P.n:Int),.slice (some ⟨ra,o_,none⟩) P.m rcap,vc]) 32/\ax W (w2.heap.size) (#[.slice fo P.n fcap,.string (qs (P.B k))]) 97) ⟨(HX2.o.alloc _),(HB0_2.o.alloc _),(ax.nw (#[.slice fo P.n fcap,.string (qs (P.B k))]) 97)⟩ ?_;rintro w3 ⟨e3,bB0_3,bB1_3⟩;have HX3:=aj e3;have HB0_3:=aj bB0_3;have HB1_3:=aj bB1_3;have HGEB1:Hid (w.heap.size<=w2.heap.size):=aj (HX2.o.size);clear e3 bB0_3 bB1_3 cr_o____k___2 cr_o____k___2___1;have c1_0:=HB1_3.o.cell 0 rfl;have c0_0:=HB0_3.o.cell 0 rfl;go_wp2_with fail;refine cto (qN (HFK.o.ext HX3.o) (HG.o.ext (HX3.o)) (HQA.o k hlt) hn) fun w4 e4=>?_
   have HX4:=aj (HX3.o.trans e4);have HB0_4:=aj (HB0_3.o.ext e4);have HB1_4:=aj (HB1_3.o.ext e4);clear e4 c1_0 c0_0;have c1_1:=HB1_4.o.cell 1 rfl;go_wp2_with fail;refine cto (jD (P.B k) _ (HG.o.ext (HX4.o)) (HQB.o k hlt)) fun w5 e5=>?_
   have HX5:=aj (HX4.o.trans e5);have HB0_5:=aj (HB0_4.o.ext e5);clear e5 c1_1;go_wp2_with fail;go_roundw
   case rel=>exact⟨k+1,by go_num,ae,aj ⟨HX5.o,HB0_5.o⟩⟩
   case measure=>simp[intOf];omega
  ·have hk2:k=P.m:=ae;have hge:¬ (k:Int)<((P.m:Nat):Int):=ae;go_wp2;go_ret;exact⟨rfl,HX2.o⟩
structure Fr(X W:World):Prop where
 out:Ext X W
theorem Fr.refl(X:World):Fr X X:=⟨Ext.refl X⟩
theorem Fr.ext{X W W':World}(h:Fr X W)(e:Ext W W'):Fr X W':=⟨h.out.trans e⟩
theorem Fr.alloc{X W:World}(h:Fr X W)(o:Obj):Fr X (W.alloc o):=⟨h.out.alloc o⟩
theorem Fr.drew{X W:World}(h:Fr X W):Fr X W.drew:=⟨h.out.drew⟩
theorem Fr.other{X W:World}(h:Fr X W){a:Addr}(u:Value)(hk:X.heap.size<=a.block):Fr X (W.setCell a u):=⟨h.out.setCell hk u⟩
theorem sB{P:LP}{w:World}{vr vc vz:Value}{va:Nat->Value}{C:Nat->Rat}(h:PM P w vr vc va)(hz:Rq w vz P.n C):PM { P with C:=C } w vr vz va:=⟨h.rows,h.j1,hz⟩
theorem lM{n k:Nat}{s:Rat}{bs:ByteArray}{C:Array Value}(hs:qs s=bs)(h:∀ j,j<n->C[j]?=some (.string ⟨#[48]⟩)):∀ j,j<n->(C.setIfInBounds k (.string bs))[j]?=some (.string (qs ((fun j=>if j=k then s else 0) j))) :=
 eQ (f:=fun _ => .string ⟨#[48]⟩) h (fun _=>by simp only[if_true];rw[hs]) (fun j _ hj=>by simp only[if_neg hj];rw[cX])
section
variable {P:LP} {q:Nat} {X Y w w':World} {v:Value}
theorem br.map(h:br P q X w v)(f:∀ v n g,gH X w v n g->gH Y w' v n g):br P q Y w' v:=by
 rcases h with⟨val,x,y,vp,vd,h1,h2,h3,h4,h5,h6,h7⟩|⟨y,vd,h1,h2,h3,h4⟩|⟨x,d,vp,vd,h1,h2,h3,h4,h5,h6⟩
 ·exact Or.inl ⟨val,x,y,vp,vd,h1,h2,h3,h4,h5,f _ _ _ h6,f _ _ _ h7⟩
 ·exact Or.inr (Or.inl ⟨y,vd,h1,h2,h3,f _ _ _ h4⟩)
 ·exact Or.inr (Or.inr ⟨x,d,vp,vd,h1,h2,h3,h4,f _ _ _ h5,f _ _ _ h6⟩)
theorem br.ext(h:br P q X w v)(e:Ext w w'):br P q X w' v:=h.map fun _ _ _ r=>r.ext e
theorem br.alloc(h:br P q X w v)(o:Obj):br P q X (w.alloc o) v:=h.ext ((Ext.refl _).alloc o)
theorem br.drew(h:br P q X w v):br P q X w.drew v:=h.ext (Ext.refl _).drew
theorem rm{b:Nat}(h:b<X.heap.size):∀ i,X.heap.size<=i->i≠b:=fun i hi e=>ae
theorem br.other(h:br P q X w v){a:Addr}(u:Value)(hk:∀ i,X.heap.size<=i->i≠a.block):br P q X (w.setCell a u) v:=h.map fun _ _ _ ⟨k,C,e,l,b,c⟩=>⟨k,C,e,l,b.other u (hk k l),c⟩
theorem br.mv{S:Nat->Prop}{Z:World}(h:br P q X w v)(m:Mv Z w S w')(hs:∀ k,X.heap.size<=k->¬ S k):br P q X w' v:=h.map fun _ _ _ ⟨k,C,e,l,b,c⟩=>⟨k,C,e,l,m.aF b (hs k l),c⟩
theorem br.mono(h:br P q X w v)(e:Ext Y X):br P q Y w v:=h.map fun _ _ _ r=>r.mono e
theorem gH.cH{n:Nat}{g:Nat->Value}(h:gH X w v n g):∃ a c,v = .slice a n c:=let ⟨_,_,e,_⟩:=h;⟨_,_,e⟩
theorem Rd.cH{n:Nat}{g:Nat->Value}(h:Rd w v n g):∃ a c,v = .slice a n c:=let ⟨a,c,e,_⟩:=h;⟨a,c,e⟩
theorem br.shape(h:br P q X w v):∃ kd vl a m c d n f g h k,v = .agg #[.int .i64 kd,.string vl,.slice a m c,.slice d n f,.slice g h k]:=by
 rcases h with⟨val,x,y,vp,vd,rfl,h2,h3,h4,h5,h6,h7⟩|⟨y,vd,rfl,h2,h3,h4⟩|⟨x,d,vp,vd,rfl,h2,h3,h4,h5,h6⟩
 ·obtain⟨a,c,rfl⟩:=h6.cH;obtain⟨a',c',rfl⟩:=h7.cH;exact⟨_,_,_,_,_,_,_,_,_,_,_,rfl⟩
 ·obtain⟨a,c,rfl⟩:=h4.cH;exact⟨_,_,_,_,_,_,_,_,_,_,_,rfl⟩
 ·obtain⟨a,c,rfl⟩:=h5.cH;obtain⟨a',c',rfl⟩:=h6.cH;exact⟨_,_,_,_,_,_,_,_,_,_,_,rfl⟩
theorem br.kind {kd:Int} {vl:ByteArray} {u1 u2 u3:Value} (h:br P q X w (.agg #[.int .i64 kd,.string vl,u1,u2,u3])) :
    (kd=1/\∃ val x y,vl=qs val/\eH P val x y/\QB q val/\((∀ j,j<P.n->QB q (x j))/\Nq X w u1 P.n x)/\((∀ i,i<P.m->QB q (y i))/\Nq X w u2 P.m y)/\u3 = .slice none 0 0) ∨
    (kd=2/\vl=⟨#[]⟩/\∃ y,cg P y/\((∀ i,i<P.m->QB q (y i))/\Nq X w u2 P.m y)/\u1 = .slice none 0 0/\u3 = .slice none 0 0) ∨
    (kd=3/\vl=⟨#[]⟩/\∃ x d,dY P x d/\((∀ j,j<P.n->QB q (x j))/\Nq X w u1 P.n x)/\((∀ j,j<P.n->QB q (d j))/\Nq X w u3 P.n d)/\u2 = .slice none 0 0):=by
 rcases h with⟨val,x,y,vp,vd,e,h2,h3,h4,h5,h6,h7⟩|⟨y,vd,e,h2,h3,h4⟩|⟨x,d,vp,vd,e,h2,h3,h4,h5,h6⟩ <;> simp only[Value.agg.injEq,Array.mk.injEq,List.cons.injEq,Value.int.injEq,Value.string.injEq,true_and,and_true] at e <;> obtain⟨rfl,rfl,rfl,rfl,rfl⟩:=e
 ·exact Or.inl ⟨rfl,val,x,y,rfl,h2,h3,⟨h4,h6⟩,⟨h5,h7⟩,rfl⟩
 ·exact Or.inr (Or.inl ⟨rfl,rfl,y,h2,⟨h3,h4⟩,rfl,rfl⟩)
 ·exact Or.inr (Or.inr ⟨rfl,rfl,x,d,h2,⟨h3,h5⟩,⟨h4,h6⟩,rfl⟩)
theorem br.Ez{kd:Int}{vl:ByteArray}{u1 u2 u3:Value}(h:br P q X w (.agg #[.int .i64 kd,.string vl,u1,u2,u3])):kd=1∨kd=2∨kd=3:=h.kind.imp (·.1) (Or.imp (·.1) (·.1))
theorem br.C5{vl:ByteArray}{u1 u2 u3:Value}(h:br P q X w (.agg #[.int .i64 1,.string vl,u1,u2,u3])):∃ val x y,vl=qs val/\eH P val x y/\QB q val/\((∀ j,j<P.n->QB q (x j))/\Nq X w u1 P.n x)/\((∀ i,i<P.m->QB q (y i))/\Nq X w u2 P.m y)/\u3 = .slice none 0 0:=by
 rcases h.kind with h|h|h
 ·exact h.2
 ·exact absurd h.1 af
 ·exact absurd h.1 af
theorem br.inf{vl:ByteArray}{u1 u2 u3:Value}(h:br P q X w (.agg #[.int .i64 2,.string vl,u1,u2,u3])):vl=⟨#[]⟩/\∃ y,cg P y/\((∀ i,i<P.m->QB q (y i))/\Nq X w u2 P.m y)/\u1 = .slice none 0 0/\u3 = .slice none 0 0:=by
 rcases h.kind with h|h|h
 ·exact absurd h.1 af
 ·exact h.2
 ·exact absurd h.1 af
theorem br.EC{vl:ByteArray}{u1 u2 u3:Value}(h:br P q X w (.agg #[.int .i64 3,.string vl,u1,u2,u3])):vl=⟨#[]⟩/\∃ x d,dY P x d/\((∀ j,j<P.n->QB q (x j))/\Nq X w u1 P.n x)/\((∀ j,j<P.n->QB q (d j))/\Nq X w u3 P.n d)/\u2 = .slice none 0 0:=by
 rcases h.kind with h|h|h
 ·exact absurd h.1 af
 ·exact absurd h.1 af
 ·exact h.2
theorem Dx{n:Nat}{x:Nat->Rat}(h:∀ j,j<n->QB q (x j))(hq:q<=200):wD (fun j => .string (qs (x j))) n:=fun j hj=>⟨_,rfl,gz ((h j hj).mono hq),(h j hj).sz hq⟩
theorem B1{g:Nat->Value}:wD g 0:=fun i hi=>absurd hi (Nat.not_lt_zero i)
theorem uV(g:Gd w)(h:br P q X w v)(hq2:q<=200)(hn:P.n<=1000)(hm:P.m<=1000):Calls prog 49 #[v] w (aR w (.bool true)):=by
 have nl:∀ g,Rd w (.slice none 0 0) 0 g:=fun g=>Rd.nil w g
 rcases h with⟨val,x,y,vp,vd,rfl,h2,h3,h4,h5,h6,h7⟩|⟨y,vd,rfl,h2,h3,h4⟩|⟨x,d,vp,vd,rfl,h2,h3,h4,h5,h6⟩
 ·obtain⟨a,c,rfl⟩:=h6.cH;obtain⟨a',c',rfl⟩:=h7.cH;exact o7 1 (qs val) w g _ _ _ _ _ _ _ _ _ _ _ _ (h6.rd (dW hn)) (Dx h4 hq2) hn (h7.rd (dW hm)) (Dx h5 hq2) hm (nl fun _ => .int .i64 0) B1 (Nat.zero_le _) (fun _=>gz (h3.mono hq2)) (h3.sz hq2)
 ·obtain⟨a,c,rfl⟩:=h4.cH;exact o7 2 ⟨#[]⟩ w g _ _ _ _ _ _ _ _ _ _ _ _ (nl fun _ => .int .i64 0) B1 (Nat.zero_le _) (h4.rd (dW hm)) (Dx h3 hq2) hm (nl fun _ => .int .i64 0) B1 (Nat.zero_le _) (fun h=>absurd h af) af
 ·obtain⟨a,c,rfl⟩:=h5.cH;obtain⟨a',c',rfl⟩:=h6.cH;exact o7 3 ⟨#[]⟩ w g _ _ _ _ _ _ _ _ _ _ _ _ (h5.rd (dW hn)) (Dx h3 hq2) hn (nl fun _ => .int .i64 0) B1 (Nat.zero_le _) (h6.rd (dW hn)) (Dx h4 hq2) hn (fun h=>absurd h af) af
end
def BF(P:LP)(q:Nat)(w:World)(e:Ending)(w':World):Prop:=∃ v,e = .returned (.tuple #[v,.int .i64 0])/\Ext w w'/\br P q w w' v
theorem Cg(P:LP)(vr vc:Value)(va:Nat->Value)(q:Nat)(w:World)(g:Gd w)(hP:PM P w vr vc va)(SZ:zP P q)(Q:PQ P)(hn:P.n<=60)(hm:P.m<=300)(hq1:1<=q)(hq2:q<=200)(qa:∀ i,i<P.m->∀ j,j<P.n->QB q (P.A i j)):Calls prog 15 #[.agg #[.int .i64 (P.n:Int),vr,vc]] w (BF P q w):=by
 have HG:=aj g;have HPM:=aj hP;have HQA:=aj qa;have HQP:=aj Q;clear g hP qa Q;obtain⟨ro,rcap,er_,_⟩:=HPM.o.rows;obtain⟨co,ccap,ec_,_⟩:=HPM.o.obj;subst er_ ec_;go_enter func15,ntmps15;go_wp2_with fail;refine cto (ns P _ _ va _ (HG.o.ext ((((Ext.refl w).alloc _).alloc _))) (HPM.o.ext (((Ext.refl w).alloc _).alloc _)) HQP.o hn hm) fun w1 e1=>?_
 have HX1:Hid (Ext w w1):=aj ((((Ext.refl w).alloc _).alloc _).trans e1);have HB0_1:Hid (ax w1 (w.heap.size) (#[.int .i64 (P.n:Int),.slice ro P.m rcap,.slice co P.n ccap]) 32):=aj ((((ax.nw (#[.int .i64 (P.n:Int),.slice ro P.m rcap,.slice co P.n ccap]) 32).alloc _)).ext e1);have HB1_1:Hid (ax w1 (w.heap.size+1) (#[.int .i64 0,.string ⟨#[]⟩,.slice none 0 0,.slice none 0 0,.slice none 0 0]) 38):=aj (((ax.nw (#[.int .i64 0,.string ⟨#[]⟩,.slice none 0 0,.slice none 0 0,.slice none 0 0]) 38)).ext e1);have HGEB0:Hid (w.heap.size<=w.heap.size):=aj (Nat.le_refl _);have HGEB1:Hid (w.heap.size<=w.heap.size+1):=aj ae;clear e1;have c0_0:=HB0_1.o.cell 0 rfl;have c0_1:=HB0_1.o.cell 1 rfl;have c0_2:=HB0_1.o.cell 2 rfl;go_wp2_with fail;refine(kX P _ _ va q _ (HG.o.ext (HX1.o)) (HPM.o.ext HX1.o) SZ (by have:=hn;show P.n<=1000;omega) (by have:=hm;show P.m<=1000;omega) hq1 ae HQA.o).mono ?_;rintro e w2 ⟨v_,rfl,e2,sv_⟩;have HX2:=aj (HX1.o.trans e2);have HB1_2:=aj (HB1_1.o.ext e2);clear e2 c0_0 c0_1 c0_2;obtain⟨kd1,vl1,a1_,m1_,c1_,d1_,n1_,f1_,g1_,h1_,k1_,rfl⟩:=sv_.shape;have HSV1_2:=aj sv_;clear sv_;go_upto_region 5 with fail
 refine ay (fun W=>Ext w W/\ax W (w.heap.size+1) (#[.int .i64 0,.string ⟨#[]⟩,.slice none 0 0,.slice none 0 0,.slice none 0 0]) 38/\br P q w1 W (.agg #[.int .i64 kd1,.string vl1,.slice a1_ m1_ c1_,.slice d1_ n1_ f1_,.slice g1_ h1_ k1_])/\ax W (w2.heap.size) (#[.int .i64 kd1,.string vl1,.slice a1_ m1_ c1_,.slice d1_ n1_ f1_,.slice g1_ h1_ k1_]) 38) ⟨(HX2.o.alloc _),(HB1_2.o.alloc _),(HSV1_2.o.alloc _),(ax.nw (#[.int .i64 kd1,.string vl1,.slice a1_ m1_ c1_,.slice d1_ n1_ f1_,.slice g1_ h1_ k1_]) 38)⟩ ?_;rintro w3 ⟨e3,bB1_3,bSV1_3,bB2_3⟩;have HX3:=aj e3;have HB1_3:=aj bB1_3;have HSV1_3:=aj bSV1_3;have HB2_3:=aj bB2_3;have HGEB2:Hid (w.heap.size<=w2.heap.size):=aj (HX2.o.size);clear e3 bB1_3 bSV1_3 bB2_3;have c2_0:=HB2_3.o.cell 0 rfl;have c2_1:=HB2_3.o.cell 1 rfl;have c2_2:=HB2_3.o.cell 2 rfl;have c2_3:=HB2_3.o.cell 3 rfl;have c2_4:=HB2_3.o.cell 4 rfl;go_wp2_with fail;refine cto (uV (HG.o.ext (HX3.o)) (HSV1_3.o) hq2 (by show P.n<=1000;omega) (by show P.m<=1000;omega)) fun w4 e4=>?_
 have HX4:=aj (HX3.o.trans e4);have HB1_4:=aj (HB1_3.o.ext e4);have HSV1_4:=aj (HSV1_3.o.ext e4);have HB2_4:=aj (HB2_3.o.ext e4);clear e4 c2_0 c2_1 c2_2 c2_3 c2_4;have c2_0:=HB2_4.o.cell 0 rfl;have c2_1:=HB2_4.o.cell 1 rfl;have c2_2:=HB2_4.o.cell 2 rfl;have c2_3:=HB2_4.o.cell 3 rfl;have c2_4:=HB2_4.o.cell 4 rfl;have c1_0:=HB1_4.o.cell 0 rfl;have f1_0:=HB1_4.o.free 0;have c1_1:=HB1_4.o.cell 1 rfl;have f1_1:=HB1_4.o.free 1;have c1_2:=HB1_4.o.cell 2 rfl;have f1_2:=HB1_4.o.free 2;have c1_3:=HB1_4.o.cell 3 rfl;have f1_3:=HB1_4.o.free 3;have c1_4:=HB1_4.o.cell 4 rfl;have f1_4:=HB1_4.o.free 4;go_wp2_with fail;refine ay (fun W=>Ext w W/\ax W (w.heap.size+1) (#[.int .i64 kd1,.string vl1,.slice a1_ m1_ c1_,.slice d1_ n1_ f1_,.slice g1_ h1_ k1_]) 38/\br P q w1 W (.agg #[.int .i64 kd1,.string vl1,.slice a1_ m1_ c1_,.slice d1_ n1_ f1_,.slice g1_ h1_ k1_])) ⟨(((((HX4.o.setCell (HGEB1.o) _).setCell (HGEB1.o) _).setCell (HGEB1.o) _).setCell (HGEB1.o) _).setCell (HGEB1.o) _),(((((HB1_4.o.set 0 (.int .i64 kd1)).set 1 (.string vl1)).set 2 (.slice a1_ m1_ c1_)).set 3 (.slice d1_ n1_ f1_)).set 4 (.slice g1_ h1_ k1_)),(((((HSV1_4.o.other (a:=⟨w.heap.size+1,0,none⟩) _ ((rm HB1_1.o.lt))).other (a:=⟨w.heap.size+1,1,none⟩) _ ((rm HB1_1.o.lt))).other (a:=⟨w.heap.size+1,2,none⟩) _ ((rm HB1_1.o.lt))).other (a:=⟨w.heap.size+1,3,none⟩) _ ((rm HB1_1.o.lt))).other (a:=⟨w.heap.size+1,4,none⟩) _ ((rm HB1_1.o.lt)))⟩ ?_;rintro w5 ⟨e5,bB1_5,bSV1_5⟩;have HX5:=aj e5;have HB1_5:=aj bB1_5;have HSV1_5:=aj bSV1_5;clear e5 bB1_5 bSV1_5 c2_0 c2_1 c2_2 c2_3 c2_4 c1_0 f1_0 c1_1 f1_1 c1_2 f1_2 c1_3 f1_3 c1_4 f1_4;have gB1_0:=HB1_5.o.cell 0 rfl;have gB1_1:=HB1_5.o.cell 1 rfl;have gB1_2:=HB1_5.o.cell 2 rfl;have gB1_3:=HB1_5.o.cell 3 rfl;have gB1_4:=HB1_5.o.cell 4 rfl;refine bodyPost_ret (v:=.tuple #[.agg #[.int .i64 kd1,.string vl1,.slice a1_ m1_ c1_,.slice d1_ n1_ f1_,.slice g1_ h1_ k1_],.int .i64 0]) (by simp[results,results15,go_sem,gB1_0,gB1_1,gB1_2,gB1_3,gB1_4]) rfl ⟨_,rfl,HX5.o,HSV1_5.o.mono HX1.o⟩
def Df(P:LP)(v:Rat):Prop:=∃ x y,eH P v x y
def zL(P:LP):Prop:=∃ x d,dY P x d
section
variable {P:LP} {q:Nat} {X w:World} {vl:ByteArray} {u1 u2 u3:Value}
theorem br.opt(h:br P q X w (.agg #[.int .i64 1,.string vl,u1,u2,u3])):∃ z,Df P z/\QB q z/\vl=qs z:=by
 obtain⟨val,x,y,e,hb,hq,_⟩:=h.C5;exact⟨val,⟨x,y,hb⟩,hq,e⟩
theorem br.mX(h:br P q X w (.agg #[.int .i64 3,.string vl,u1,u2,u3])):zL P:=by
 obtain⟨_,x,d,hd,_⟩:=h.EC;exact⟨x,d,hd⟩
theorem br.refs{C:Nat->Rat}(h:br { P with C:=C } q X w (.agg #[.int .i64 2,.string vl,u1,u2,u3])):∃ y,cg P y:=by
 obtain⟨_,y,hb,_⟩:=h.inf;exact⟨y,hb.pos,hb.comb,hb.neg⟩
end
abbrev LP.unit(P:LP)(k:Nat)(s:Rat):LP:={ P with C:=fun j=>if j=k then s else 0 }
def uJ(P:LP)(k q:Nat)(w:World)(e:Ending)(w':World):Prop:=Ext w w' /\
 ((e = .returned (.tuple #[.string ⟨#[]⟩,.string ⟨#[]⟩,.int .i64 22])/\∃ y,cg P y) ∨
  ∃ lo hi,e = .returned (.tuple #[.string lo,.string hi,.int .i64 0]) /\
   ((∃ z,Df (P.unit k 1) z/\QB q z/\lo=qs z)∨(zL (P.unit k 1)/\lo=⟨#[]⟩)) /\
   ((∃ z,Df (P.unit k (-1)) z/\QB q z/\hi=qs (-z))∨(zL (P.unit k (-1))/\hi=⟨#[]⟩)))
theorem x5(P:LP)(vr vc:Value)(va:Nat->Value)(q:Nat)(w:World)(g:Gd w)(hP:PM P w vr vc va)(k:Nat)(hk:k<P.n)(SZ1:zP { P with C:=fun j=>if j=k then(1:Rat) else 0 } q)(SZ2:zP { P with C:=fun j=>if j=k then(-1:Rat) else 0 } q)(Q:PQ P)(hn:P.n<=60)(hm:P.m<=300)(hq1:1<=q)(hq2:q<=200)(qa:∀ i,i<P.m->∀ j,j<P.n->QB q (P.A i j)):Calls prog 19 #[.agg #[.int .i64 (P.n:Int),vr,vc],.int .i64 (k:Int)] w (uJ P k q w):=by
 have HSZ1:=aj SZ1;have HSZ2:=aj SZ2;have HG:=aj g;have HPM:=aj hP;have HQA:=aj qa;have HQP:=aj Q;clear SZ1 SZ2 g hP qa Q;have hk0:¬ ((k:Int)<0):=ae;have hk1:¬ ((P.n:Int)<=(k:Int)):=ae;obtain⟨ro,rcap,er_,_⟩:=HPM.o.rows;obtain⟨co,ccap,ec_,_⟩:=HPM.o.obj;subst er_ ec_;go_enter func19,ntmps19;go_wp2_with fail;refine cto (ns P _ _ va _ (HG.o.ext (((Ext.refl w).alloc _))) (HPM.o.ext ((Ext.refl w).alloc _)) HQP.o hn hm) fun w1 e1=>?_
 have HX1:Hid (Ext w w1):=aj (((Ext.refl w).alloc _).trans e1);have HB0_1:Hid (ax w1 (w.heap.size) (#[.int .i64 (P.n:Int),.slice ro P.m rcap,.slice co P.n ccap]) 32):=aj (((ax.nw (#[.int .i64 (P.n:Int),.slice ro P.m rcap,.slice co P.n ccap]) 32)).ext e1);have HGEB0:Hid (w.heap.size<=w.heap.size):=aj (Nat.le_refl _);clear e1;have c0_0:=HB0_1.o.cell 0 rfl;go_wp2_with fail;refine wp_loop_rounds 3 ?_;rw[rounds_succ];clear c0_0;go_upto_region 8 with fail
 refine ay (fun W=>Ext w W/\ax W (w.heap.size) (#[.int .i64 (P.n:Int),.slice ro P.m rcap,.slice co P.n ccap]) 32/\ax W (w1.heap.size) (#[.string ⟨#[49]⟩,.string ⟨#[45,49]⟩]) 34) ⟨(HX1.o.alloc _),(HB0_1.o.alloc _),(ax.nw (#[.string ⟨#[49]⟩,.string ⟨#[45,49]⟩]) 34)⟩ ?_;rintro w2 ⟨e2,bB0_2,bB1_2⟩;have HX2:=aj e2;have HB0_2:=aj bB0_2;have HB1_2:=aj bB1_2;have HGEB1:Hid (w.heap.size<=w1.heap.size):=aj (HX1.o.size);clear e2 bB0_2 bB1_2;have c1_0:=HB1_2.o.cell 0 rfl;have c0_0:=HB0_2.o.cell 0 rfl;go_wp2_with fail;refine(fe P.n ae _).mono ?_;rintro e w3 ⟨kz1,CZ1,rfl,e3,g_,b_,c_⟩;have HNB0Bz1:Hid (w.heap.size≠kz1):=aj (Nat.ne_of_lt (Nat.lt_of_lt_of_le HB0_2.o.lt g_));have HNB1Bz1:Hid (w1.heap.size≠kz1):=aj (Nat.ne_of_lt (Nat.lt_of_lt_of_le HB1_2.o.lt g_));have HGEBz1:Hid (w.heap.size<=kz1):=aj (Nat.le_trans HX2.o.size g_);have HX3:=aj (HX2.o.trans e3);have HB0_3:=aj (HB0_2.o.ext e3);have HB1_3:=aj (HB1_2.o.ext e3);clear e3 c1_0 c0_0;have HBz1_3:=aj b_;have HCBz1:=aj c_;clear g_ b_ c_;have c0_2:=HB0_3.o.cell 2 rfl;have f0_2:=HB0_3.o.free 2;go_upto_region 10 with fail
 refine ay (fun W=>Ext w W/\ax W (w.heap.size) (#[.int .i64 (P.n:Int),.slice ro P.m rcap,.slice (some ⟨kz1,0,none⟩) P.n P.n]) 32/\ax W (w1.heap.size) (#[.string ⟨#[49]⟩,.string ⟨#[45,49]⟩]) 34/\ax W (kz1) (CZ1) 34) ⟨(HX3.o.setCell (HGEB0.o) _),(HB0_3.o.set 2 (.slice (some ⟨kz1,0,none⟩) P.n P.n)),(HB1_3.o.other (a:=⟨w.heap.size,2,none⟩) _ (Nat.ne_of_gt HB0_1.o.lt)),(HBz1_3.o.other (a:=⟨w.heap.size,2,none⟩) _ (fun h=>HNB0Bz1.o h.symm))⟩ ?_;rintro w4 ⟨e4,bB0_4,bB1_4,bBz1_4⟩;have HX4:=aj e4;have HB0_4:=aj bB0_4;have HB1_4:=aj bB1_4;have HBz1_4:=aj bBz1_4;clear e4 bB0_4 bB1_4 bBz1_4 c0_2 f0_2;have c0_2:=HB0_4.o.cell 2 rfl;have cz1_k:=HBz1_4.o.cell (k) (HCBz1.o k hk);have fz1_k:=HBz1_4.o.free k;go_upto_region 11 with fail
 refine ay (fun W=>Ext w W/\ax W (w.heap.size) (#[.int .i64 (P.n:Int),.slice ro P.m rcap,.slice (some ⟨kz1,0,none⟩) P.n P.n]) 32/\ax W (w1.heap.size) (#[.string ⟨#[49]⟩,.string ⟨#[45,49]⟩]) 34/\ax W (kz1) ((CZ1).setIfInBounds k (.string ⟨#[49]⟩)) 34) ⟨(HX4.o.setCell HGEBz1.o _),(HB0_4.o.other (a:=⟨kz1,k,none⟩) _ (HNB0Bz1.o)),(HB1_4.o.other (a:=⟨kz1,k,none⟩) _ (HNB1Bz1.o)),(HBz1_4.o.set k (.string ⟨#[49]⟩))⟩ ?_;rintro w5 ⟨e5,bB0_5,bB1_5,bBz1_5⟩;have HX5:=aj e5;have HB0_5:=aj bB0_5;have HB1_5:=aj bB1_5;have HBz1_5:=aj bBz1_5;clear e5 bB0_5 bB1_5 bBz1_5 c0_2 cz1_k fz1_k;have c0_0:=HB0_5.o.cell 0 rfl;have c0_1:=HB0_5.o.cell 1 rfl;have c0_2:=HB0_5.o.cell 2 rfl;go_wp2_with fail;refine(kX { P with C:=fun j=>if j=k then(1:Rat) else 0 } _ _ va q _ (HG.o.ext (HX5.o)) (sB (HPM.o.ext HX5.o) (Rd.aF HBz1_5.o (Nat.le_refl _) (dW ae) (lM eS HCBz1.o))) HSZ1.o (by have:=hn;show P.n<=1000;omega) (by have:=hm;show P.m<=1000;omega) hq1 ae HQA.o).mono ?_;rintro e w6 ⟨v_,rfl,e6,sv_⟩;have HX6:=aj (HX5.o.trans e6);have HB0_6:=aj (HB0_5.o.ext e6);have HB1_6:=aj (HB1_5.o.ext e6);have HBz1_6:=aj (HBz1_5.o.ext e6);clear e6 c0_0 c0_1 c0_2;obtain⟨kd1,vl1,a1_,m1_,c1_,d1_,n1_,f1_,g1_,h1_,k1_,rfl⟩:=sv_.shape;have HSV1_6:=aj sv_;clear sv_;go_upto_region 13 with fail
 refine ay (fun W=>Ext w W/\ax W (w.heap.size) (#[.int .i64 (P.n:Int),.slice ro P.m rcap,.slice (some ⟨kz1,0,none⟩) P.n P.n]) 32/\ax W (w1.heap.size) (#[.string ⟨#[49]⟩,.string ⟨#[45,49]⟩]) 34/\br ({ P with C:=fun j=>if j=k then(1:Rat) else 0 }) q w5 W (.agg #[.int .i64 kd1,.string vl1,.slice a1_ m1_ c1_,.slice d1_ n1_ f1_,.slice g1_ h1_ k1_])/\ax W (w6.heap.size) (#[.int .i64 kd1,.string vl1,.slice a1_ m1_ c1_,.slice d1_ n1_ f1_,.slice g1_ h1_ k1_]) 38) ⟨(HX6.o.alloc _),(HB0_6.o.alloc _),(HB1_6.o.alloc _),(HSV1_6.o.alloc _),(ax.nw (#[.int .i64 kd1,.string vl1,.slice a1_ m1_ c1_,.slice d1_ n1_ f1_,.slice g1_ h1_ k1_]) 38)⟩ ?_;rintro w7 ⟨e7,bB0_7,bB1_7,bSV1_7,bB2_7⟩;have HX7:=aj e7;have HB0_7:=aj bB0_7;have HB1_7:=aj bB1_7;have HSV1_7:=aj bSV1_7;have HB2_7:=aj bB2_7;have HGEB2:Hid (w.heap.size<=w6.heap.size):=aj (HX6.o.size);clear e7 bB0_7 bB1_7 bSV1_7 bB2_7;rcases HSV1_7.o.Ez with rfl|rfl|rfl
 ·obtain⟨z1,hz1,hq1_,he_⟩:=HSV1_7.o.opt;subst he_;have HZ1:=aj hz1;have HQZ1:=aj hq1_;clear hz1 hq1_;have c2_0:=HB2_7.o.cell 0 rfl;have c2_1:=HB2_7.o.cell 1 rfl;clear HSV1_7;go_wp2_with fail;refine cto (jD z1 _ (HG.o.ext (HX7.o)) (HQZ1.o.mono hq2)) fun w8 e8=>?_
  have HX8:=aj (HX7.o.trans e8);have HB0_8:=aj (HB0_7.o.ext e8);have HB1_8:=aj (HB1_7.o.ext e8);have HB2_8:=aj (HB2_7.o.ext e8);clear e8 c2_0 c2_1;have c2_1:=HB2_8.o.cell 1 rfl;go_wp2_with fail;rw[rounds_succ];clear c2_1;have c1_1:=HB1_8.o.cell 1 rfl;have c0_0:=HB0_8.o.cell 0 rfl;go_wp2_with fail;refine(fe P.n ae _).mono ?_;rintro e w9 ⟨kz2,CZ2,rfl,e9,g_,b_,c_⟩;have HNB0Bz2:Hid (w.heap.size≠kz2):=aj (Nat.ne_of_lt (Nat.lt_of_lt_of_le HB0_8.o.lt g_));have HGEBz2:Hid (w.heap.size<=kz2):=aj (Nat.le_trans HX8.o.size g_);have HX9:=aj (HX8.o.trans e9);have HB0_9:=aj (HB0_8.o.ext e9);clear e9 c1_1 c0_0;have HBz2_9:=aj b_;have HCBz2:=aj c_;clear g_ b_ c_;have c0_2:=HB0_9.o.cell 2 rfl;have f0_2:=HB0_9.o.free 2;go_upto_region 10 with fail
  refine ay (fun W=>Ext w W/\ax W (w.heap.size) (#[.int .i64 (P.n:Int),.slice ro P.m rcap,.slice (some ⟨kz2,0,none⟩) P.n P.n]) 32/\ax W (kz2) (CZ2) 34) ⟨(HX9.o.setCell (HGEB0.o) _),(HB0_9.o.set 2 (.slice (some ⟨kz2,0,none⟩) P.n P.n)),(HBz2_9.o.other (a:=⟨w.heap.size,2,none⟩) _ (fun h=>HNB0Bz2.o h.symm))⟩ ?_;rintro w10 ⟨e10,bB0_10,bBz2_10⟩;have HX10:=aj e10;have HB0_10:=aj bB0_10;have HBz2_10:=aj bBz2_10;clear e10 bB0_10 bBz2_10 c0_2 f0_2;have c0_2:=HB0_10.o.cell 2 rfl;have cz2_k:=HBz2_10.o.cell (k) (HCBz2.o k hk);have fz2_k:=HBz2_10.o.free k;go_upto_region 11 with fail
  refine ay (fun W=>Ext w W/\ax W (w.heap.size) (#[.int .i64 (P.n:Int),.slice ro P.m rcap,.slice (some ⟨kz2,0,none⟩) P.n P.n]) 32/\ax W (kz2) ((CZ2).setIfInBounds k (.string ⟨#[45,49]⟩)) 34) ⟨(HX10.o.setCell HGEBz2.o _),(HB0_10.o.other (a:=⟨kz2,k,none⟩) _ (HNB0Bz2.o)),(HBz2_10.o.set k (.string ⟨#[45,49]⟩))⟩ ?_;rintro w11 ⟨e11,bB0_11,bBz2_11⟩;have HX11:=aj e11;have HB0_11:=aj bB0_11;have HBz2_11:=aj bBz2_11;clear e11 bB0_11 bBz2_11 c0_2 cz2_k fz2_k;have c0_0:=HB0_11.o.cell 0 rfl;have c0_1:=HB0_11.o.cell 1 rfl;have c0_2:=HB0_11.o.cell 2 rfl;go_wp2_with fail;refine(kX { P with C:=fun j=>if j=k then(-1:Rat) else 0 } _ _ va q _ (HG.o.ext (HX11.o)) (sB (HPM.o.ext HX11.o) (Rd.aF HBz2_11.o (Nat.le_refl _) (dW ae) (lM jM HCBz2.o))) HSZ2.o (by have:=hn;show P.n<=1000;omega) (by have:=hm;show P.m<=1000;omega) hq1 ae HQA.o).mono ?_;rintro e w12 ⟨v_,rfl,e12,sv_⟩;have HX12:=aj (HX11.o.trans e12);have HBz2_12:=aj (HBz2_11.o.ext e12);clear e12 c0_0 c0_1 c0_2;obtain⟨kd2,vl2,a2_,m2_,c2_,d2_,n2_,f2_,g2_,h2_,k2_,rfl⟩:=sv_.shape;have HSV2_12:=aj sv_;clear sv_;go_upto_region 13 with fail
  refine ay (fun W=>Ext w W/\br ({ P with C:=fun j=>if j=k then(-1:Rat) else 0 }) q w11 W (.agg #[.int .i64 kd2,.string vl2,.slice a2_ m2_ c2_,.slice d2_ n2_ f2_,.slice g2_ h2_ k2_])/\ax W (w12.heap.size) (#[.int .i64 kd2,.string vl2,.slice a2_ m2_ c2_,.slice d2_ n2_ f2_,.slice g2_ h2_ k2_]) 38) ⟨(HX12.o.alloc _),(HSV2_12.o.alloc _),(ax.nw (#[.int .i64 kd2,.string vl2,.slice a2_ m2_ c2_,.slice d2_ n2_ f2_,.slice g2_ h2_ k2_]) 38)⟩ ?_;rintro w13 ⟨e13,bSV2_13,bB3_13⟩;have HX13:=aj e13;have HSV2_13:=aj bSV2_13;have HB3_13:=aj bB3_13;have HGEB3:Hid (w.heap.size<=w12.heap.size):=aj (HX12.o.size);clear e13 bSV2_13 bB3_13;rcases HSV2_13.o.Ez with rfl|rfl|rfl
  ·obtain⟨z2,hz2,hq2_,he_⟩:=HSV2_13.o.opt;subst he_;have HZ2:=aj hz2;have HQZ2:=aj hq2_;clear hz2 hq2_;have c3_0:=HB3_13.o.cell 0 rfl;have c3_1:=HB3_13.o.cell 1 rfl;clear HSV2_13;go_wp2_with fail;refine cto (jD z2 _ (HG.o.ext (HX13.o)) (HQZ2.o.mono hq2)) fun w14 e14=>?_
   have HX14:=aj (HX13.o.trans e14);have HB3_14:=aj (HB3_13.o.ext e14);clear e14 c3_0 c3_1;have c3_1:=HB3_14.o.cell 1 rfl;go_wp2_with fail;refine cto (gJ z2 _ HQZ2.o ae) fun w15 e15=>?_
   have HX15:=aj (HX14.o.trans e15);clear e15 c3_1;go_wp2_with fail;rw[rounds_succ];go_wp2;go_ret3;exact⟨HX15.o,Or.inr ⟨_,_,rfl,Or.inl ⟨_,HZ1.o,HQZ1.o,rfl⟩,Or.inl ⟨_,HZ2.o,HQZ2.o,rfl⟩⟩⟩
  ·have HRF:=aj HSV2_13.o.refs;have c3_0:=HB3_13.o.cell 0 rfl;clear HSV2_13;go_wp2;go_ret3;exact⟨HX13.o,Or.inl ⟨rfl,HRF.o⟩⟩
  ·have HFA2:=aj HSV2_13.o.mX;have c3_0:=HB3_13.o.cell 0 rfl;clear HSV2_13;go_wp2_with fail;rw[rounds_succ];clear c3_0;go_wp2;go_ret3;exact⟨HX13.o,Or.inr ⟨_,_,rfl,Or.inl ⟨_,HZ1.o,HQZ1.o,rfl⟩,Or.inr ⟨HFA2.o,rfl⟩⟩⟩
 ·have HRF:=aj HSV1_7.o.refs;have c2_0:=HB2_7.o.cell 0 rfl;clear HSV1_7;go_wp2;go_ret3;exact⟨HX7.o,Or.inl ⟨rfl,HRF.o⟩⟩
 ·have HFA1:=aj HSV1_7.o.mX;have c2_0:=HB2_7.o.cell 0 rfl;clear HSV1_7;go_wp2_with fail;rw[rounds_succ];clear c2_0;have c1_1:=HB1_7.o.cell 1 rfl;have c0_0:=HB0_7.o.cell 0 rfl;go_wp2_with fail;refine(fe P.n ae _).mono ?_;rintro e w8 ⟨kz2,CZ2,rfl,e8,g_,b_,c_⟩;have HNB0Bz2:Hid (w.heap.size≠kz2):=aj (Nat.ne_of_lt (Nat.lt_of_lt_of_le HB0_7.o.lt g_));have HNB1Bz2:Hid (w1.heap.size≠kz2):=aj (Nat.ne_of_lt (Nat.lt_of_lt_of_le HB1_7.o.lt g_));have HGEBz2:Hid (w.heap.size<=kz2):=aj (Nat.le_trans HX7.o.size g_);have HX8:=aj (HX7.o.trans e8);have HB0_8:=aj (HB0_7.o.ext e8);have HB1_8:=aj (HB1_7.o.ext e8);clear e8 c1_1 c0_0;have HBz2_8:=aj b_;have HCBz2:=aj c_;clear g_ b_ c_;have c0_2:=HB0_8.o.cell 2 rfl;have f0_2:=HB0_8.o.free 2;go_upto_region 10 with fail
  refine ay (fun W=>Ext w W/\ax W (w.heap.size) (#[.int .i64 (P.n:Int),.slice ro P.m rcap,.slice (some ⟨kz2,0,none⟩) P.n P.n]) 32/\ax W (w1.heap.size) (#[.string ⟨#[49]⟩,.string ⟨#[45,49]⟩]) 34/\ax W (kz2) (CZ2) 34) ⟨(HX8.o.setCell (HGEB0.o) _),(HB0_8.o.set 2 (.slice (some ⟨kz2,0,none⟩) P.n P.n)),(HB1_8.o.other (a:=⟨w.heap.size,2,none⟩) _ (Nat.ne_of_gt HB0_1.o.lt)),(HBz2_8.o.other (a:=⟨w.heap.size,2,none⟩) _ (fun h=>HNB0Bz2.o h.symm))⟩ ?_;rintro w9 ⟨e9,bB0_9,bB1_9,bBz2_9⟩;have HX9:=aj e9;have HB0_9:=aj bB0_9;have HB1_9:=aj bB1_9;have HBz2_9:=aj bBz2_9;clear e9 bB0_9 bB1_9 bBz2_9 c0_2 f0_2;have c0_2:=HB0_9.o.cell 2 rfl;have cz2_k:=HBz2_9.o.cell (k) (HCBz2.o k hk);have fz2_k:=HBz2_9.o.free k;go_upto_region 11 with fail
  refine ay (fun W=>Ext w W/\ax W (w.heap.size) (#[.int .i64 (P.n:Int),.slice ro P.m rcap,.slice (some ⟨kz2,0,none⟩) P.n P.n]) 32/\ax W (kz2) ((CZ2).setIfInBounds k (.string ⟨#[45,49]⟩)) 34) ⟨(HX9.o.setCell HGEBz2.o _),(HB0_9.o.other (a:=⟨kz2,k,none⟩) _ (HNB0Bz2.o)),(HBz2_9.o.set k (.string ⟨#[45,49]⟩))⟩ ?_;rintro w10 ⟨e10,bB0_10,bBz2_10⟩;have HX10:=aj e10;have HB0_10:=aj bB0_10;have HBz2_10:=aj bBz2_10;clear e10 bB0_10 bBz2_10 c0_2 cz2_k fz2_k;have c0_0:=HB0_10.o.cell 0 rfl;have c0_1:=HB0_10.o.cell 1 rfl;have c0_2:=HB0_10.o.cell 2 rfl;go_wp2_with fail;refine(kX { P with C:=fun j=>if j=k then(-1:Rat) else 0 } _ _ va q _ (HG.o.ext (HX10.o)) (sB (HPM.o.ext HX10.o) (Rd.aF HBz2_10.o (Nat.le_refl _) (dW ae) (lM jM HCBz2.o))) HSZ2.o (by have:=hn;show P.n<=1000;omega) (by have:=hm;show P.m<=1000;omega) hq1 ae HQA.o).mono ?_;rintro e w11 ⟨v_,rfl,e11,sv_⟩;have HX11:=aj (HX10.o.trans e11);have HB0_11:=aj (HB0_10.o.ext e11);have HBz2_11:=aj (HBz2_10.o.ext e11);clear e11 c0_0 c0_1 c0_2;obtain⟨kd2,vl2,a2_,m2_,c2_,d2_,n2_,f2_,g2_,h2_,k2_,rfl⟩:=sv_.shape;have HSV2_11:=aj sv_;clear sv_;go_upto_region 13 with fail
  refine ay (fun W=>Ext w W/\ax W (w.heap.size) (#[.int .i64 (P.n:Int),.slice ro P.m rcap,.slice (some ⟨kz2,0,none⟩) P.n P.n]) 32/\ax W (kz2) ((CZ2).setIfInBounds k (.string ⟨#[45,49]⟩)) 34/\br ({ P with C:=fun j=>if j=k then(-1:Rat) else 0 }) q w10 W (.agg #[.int .i64 kd2,.string vl2,.slice a2_ m2_ c2_,.slice d2_ n2_ f2_,.slice g2_ h2_ k2_])/\ax W (w11.heap.size) (#[.int .i64 kd2,.string vl2,.slice a2_ m2_ c2_,.slice d2_ n2_ f2_,.slice g2_ h2_ k2_]) 38) ⟨(HX11.o.alloc _),(HB0_11.o.alloc _),(HBz2_11.o.alloc _),(HSV2_11.o.alloc _),(ax.nw (#[.int .i64 kd2,.string vl2,.slice a2_ m2_ c2_,.slice d2_ n2_ f2_,.slice g2_ h2_ k2_]) 38)⟩ ?_;rintro w12 ⟨e12,bB0_12,bBz2_12,bSV2_12,bB3_12⟩;have HX12:=aj e12;have HB0_12:=aj bB0_12;have HBz2_12:=aj bBz2_12;have HSV2_12:=aj bSV2_12;have HB3_12:=aj bB3_12;have HGEB3:Hid (w.heap.size<=w11.heap.size):=aj (HX11.o.size);clear e12 bB0_12 bBz2_12 bSV2_12 bB3_12;rcases HSV2_12.o.Ez with rfl|rfl|rfl
  ·obtain⟨z2,hz2,hq2_,he_⟩:=HSV2_12.o.opt;subst he_;have HZ2:=aj hz2;have HQZ2:=aj hq2_;clear hz2 hq2_;have c3_0:=HB3_12.o.cell 0 rfl;have c3_1:=HB3_12.o.cell 1 rfl;clear HSV2_12;go_wp2_with fail;refine cto (jD z2 _ (HG.o.ext (HX12.o)) (HQZ2.o.mono hq2)) fun w13 e13=>?_
   have HX13:=aj (HX12.o.trans e13);have HB3_13:=aj (HB3_12.o.ext e13);clear e13 c3_0 c3_1;have c3_1:=HB3_13.o.cell 1 rfl;go_wp2_with fail;refine cto (gJ z2 _ HQZ2.o ae) fun w14 e14=>?_
   have HX14:=aj (HX13.o.trans e14);have HB3_14:=aj (HB3_13.o.ext e14);clear e14 c3_1;go_wp2_with fail;rw[rounds_succ];go_wp2;go_ret3;exact⟨HX14.o,Or.inr ⟨_,_,rfl,Or.inr ⟨HFA1.o,rfl⟩,Or.inl ⟨_,HZ2.o,HQZ2.o,rfl⟩⟩⟩
  ·have HRF:=aj HSV2_12.o.refs;have c3_0:=HB3_12.o.cell 0 rfl;clear HSV2_12;go_wp2;go_ret3;exact⟨HX12.o,Or.inl ⟨rfl,HRF.o⟩⟩
  ·have HFA2:=aj HSV2_12.o.mX;have c3_0:=HB3_12.o.cell 0 rfl;clear HSV2_12;go_wp2_with fail;rw[rounds_succ];clear c3_0;go_wp2;go_ret3;exact⟨HX12.o,Or.inr ⟨_,_,rfl,Or.inr ⟨HFA1.o,rfl⟩,Or.inr ⟨HFA2.o,rfl⟩⟩⟩
theorem Dq{b:ByteArray}{l:List UInt8}(h:¬ b=⟨l.toArray⟩):(b.toList == l)=false:=by
 rw[toList_data];rcases b with⟨⟨m⟩⟩;simpa using fun e=>h (by rw[e])
def rR(is:Nat->Bool)(k:Nat):List Nat:=(List.range k).filter is
theorem pP{is:Nat->Bool}{k:Nat}(h:is k=true):rR is (k+1)=rR is k ++ [k]:=by simp[rR,List.range_succ,h]
theorem y7{is:Nat->Bool}{k:Nat}(h:is k=false):rR is (k+1)=rR is k:=by simp[rR,List.range_succ,h]
def pQ(is:Nat->Bool)(k:Nat)(j:Nat):Value:=.int .i64 (((rR is k)[j]?.getD 0:Nat):Int)
abbrev FL(X w:World)(is:Nat->Bool)(k:Nat)(v:Value):Prop:=bh X w 3 1 v (rR is k).length (pQ is k)
section
variable {X w w':World} {is:Nat->Bool} {k:Nat} {v:Value}
theorem FL.nil(X w:World)(is:Nat->Bool):FL X w is 0 (.slice none 0 0):=bh.nil _ _ _ _ _
theorem FL.skip(h:FL X w is k v)(hk:is k=false):FL X w is (k+1) v:=by
 have e:pQ is (k+1)=pQ is k:=by funext j;rw[pQ,pQ,y7 hk]
 rw[FL,y7 hk,e];exact h
theorem FL.push{v':Value}(h:App X w 3 1 v (rR is k).length 1 (pQ is k) (fun _ => .int .i64 (k:Int)) v' w')(hk:is k=true):FL X w' is (k+1) v':=by
 have e:(rR is (k+1)).length=(rR is k).length+1:=by rw[pP hk];simp
 rw[FL,e];refine h.own.congr fun i hi=>?_
 rw[Nat.mul_one] at hi;by_cases h1:i<(rR is k).length
 ·rw[dF ae,pQ,pQ,pP hk,List.getElem?_append_left h1]
 ·have:i=(rR is k).length:=ae;rw[dw ae,pQ,pP hk,this];simp
theorem bh.alloc{t:TypeId}{sz n:Nat}{G:Nat->Value}(h:bh X w t sz v n G)(o:Obj):bh X (w.alloc o) t sz v n G:=h.ext ((Ext.refl _).alloc o)
theorem bh.drew{t:TypeId}{sz n:Nat}{G:Nat->Value}(h:bh X w t sz v n G):bh X w.drew t sz v n G:=h.ext (Ext.refl _).drew
theorem bh.ne{t:TypeId}{sz n:Nat}{G:Nat->Value}(h:bh X w t sz v n G){b:Nat}(hb:w.heap.size<=b):∀ k,c7 v k->k≠b:=fun k hk e=>by have:=(h.lt hk).2;omega
end
def EN(P:LP)(x:Nat->Rat)(k:Nat):Bool:=decide (P.B k<aN P.n (fun j=>P.A k j*x j))
def mz(t:ByteArray):Bool:=decide (t≠⟨#[48]⟩)
theorem xy(x:Rat):decide (x.num<0)=decide (x<0):=decide_eq_decide.2 ⟨fun h=>(Rat.lt_iff x 0).2 (by simpa using h),fun h=>by have:=(Rat.lt_iff x 0).1 h;simpa using this⟩
theorem BS(x:Rat)(w:World):Calls prog 213 #[.string (qs x)] w (aR w (.bool (decide (x<0)))):=by
 go_enter func213,ntmps213;go_wp2_with fail;refine(di x _).mono ?_;rintro e _ ⟨rfl,rfl⟩;go_wp2;go_ret;exact⟨by rw[← xy];rfl,(Ext.refl w)⟩
theorem Dw(t:ByteArray)(w:World):Calls prog 141 #[.string t] w (aR w (.bool (mz t))):=by
 go_enter func141,ntmps141;by_cases hz:t=⟨#[48]⟩
 ·go_wp2;go_ret;exact⟨by rw[mz,decide_eq_false (fun h=>h hz)];rfl,(Ext.refl w)⟩
 ·have hz2:(t.toList == [48])=false:=Dq hz;go_wp2;go_ret;exact⟨by rw[mz,decide_eq_true hz];rfl,(Ext.refl w)⟩
theorem tV{w:World}{v:Value}{m:Nat}{y:Nat->Rat}(h:Rq w v m y)(hm:m<=1000000):Calls prog 112 #[v,.func (.func 213) #[] #[]] w (aR w (.bool (gG (fun i=>decide (y i<0)) m))):=by
 obtain⟨ao,cap,rfl,_,_,hc⟩:=h;exact uD ao m cap 213 #[] (fun i => .string (qs (y i))) (fun i=>decide (y i<0)) w hc (fun W _ k _=>BS (y k) W) hm (fun _ _=>ag)
theorem yk{w:World}{v:Value}{m:Nat}{t:Nat->ByteArray}(h:Rs w v m t)(hm:m<=1000000):Calls prog 112 #[v,.func (.func 141) #[] #[]] w (aR w (.bool (gG (fun i=>mz (t i)) m))):=by
 obtain⟨ao,cap,rfl,_,_,hc⟩:=h;exact uD ao m cap 141 #[] (fun i => .string (t i)) (fun i=>mz (t i)) w hc (fun W _ k _=>Dw (t k) W) hm (fun _ _=>ag)
def rQ(P:LP)(y:Nat->Rat)(k j:Nat):Rat:=aN k (fun i=>y i*P.A i j)
theorem xA{P:LP}{y:Nat->Rat}{j:Nat}:rQ P y 0 j=0:=rfl
theorem Ae{P:LP}{y:Nat->Rat}{j:Nat}:rQ P y P.m j=P.comb y j:=rfl
theorem Ad {P:LP} {y:Nat->Rat} {k j n:Nat} {C:Array Value} (h:∀ i,i<n->C[i]?=some (.string (qs (if i<j then rQ P y (k+1) i else rQ P y k i)))) :
    ∀ i,i<n->(C.setIfInBounds j (.string (qs (rQ P y k j+y k*P.A k j))))[i]?=some (.string (qs (if i<j+1 then rQ P y (k+1) i else rQ P y k i))) :=
 eQ h (fun _=>by rw[if_pos ae];rfl) (fun i _ hne=>by
  by_cases h1:i<j
  ·rw[if_pos h1,if_pos ae]
  ·rw[if_neg h1,if_neg ae])
theorem tP{w:World}{v:Value}{n:Nat}{a:Nat->Rat}(h:Rq w v n a)(g:Gd w)(hq:∀ i,i<n->QB 200 (a i))(hn:n<=1000000):Calls prog 120 #[v,.int .i64 (n:Int)] w (aR w (.int .i64 0)):=by
 have:=pw (k:=n) (t:=fun i=>qs (a i)) g h (fun i hi=>(hq i hi).sz (Nat.le_refl _)) hn;rwa[fU,if_neg (fun h=>h rfl),if_neg (by rw[Bool.not_eq_true,any_false];intro i hi;simp[gz (hq i hi)])] at this
def EI(P:LP)(y:Nat->Rat)(w:World)(e:Ending)(w':World):Prop:=∃ vf,e = .returned (.tuple #[vf,.string (qs (P.ib y)),.int .i64 0])/\Ext w w'/\Nq w w' vf P.n (P.comb y)
theorem zZ(P:LP)(vr vc:Value)(va:Nat->Value)(q:Nat)(w:World)(g:Gd w)(hP:PM P w vr vc va)(vy:Value)(y:Nat->Rat)(r:Nat)(hy:Rq w vy P.m y)(hr:∀ i,i<P.m->QB r (y i))(hr2:r<=200)(hsz:P.m*(r+q+1)<=198)(qb:∀ i,i<P.m->QB q (P.B i))(hnn:gG (fun i=>decide (y i<0)) P.m=false)(Q:PQ P)(hn:P.n<=60)(hm:P.m<=300)(hq1:1<=q)(hq2:q<=200)(qa:∀ i,i<P.m->∀ j,j<P.n->QB q (P.A i j)):Calls prog 140 #[.agg #[.int .i64 (P.n:Int),vr,vc],.agg #[vy]] w (EI P y w):=by
 have HPM:=aj hP;have HNN:=aj hnn;have HYR:=aj hy;have HYQ:=aj hr;have HQB:=aj qb;have HG:=aj g;have HQA:=aj qa;have HQP:=aj Q;clear hP hnn hy hr qb g qa Q;have hm6:P.m<=1000000:=ae;have HSB:Hid (∀ k,k<=P.m->QB 199 (aN k (fun i=>y i*P.B i))):=aj (fun k hk=>(lX HYQ.o HQB.o k hk).mono (zf hk hsz));have HSA:Hid (∀ k,k<=P.m->∀ j,j<P.n->QB 199 (rQ P y k j)):=aj (fun k hk j hj=>(lX HYQ.o (fun i hi=>HQA.o i hi j hj) k hk).mono (zf hk hsz));have HPO:=aj HPM.o.obj;have HPF:=aj HPM.o.j1;obtain⟨co,ccap,ec_,_⟩:=HPM.o.obj;obtain⟨ro,rcap,er_,_,_,hrr⟩:=HPM.o.rows;subst er_ ec_;have HRR:=aj hrr;clear hrr;have HY0:=aj HYR.o;obtain⟨yo,ycap,ey_,_,_,hyy⟩:=HYR.o;subst ey_;have HYY:=aj hyy;clear hyy;go_enter func140,ntmps140;go_wp2_with fail;refine cto (tP (HY0.o.ext (((Ext.refl w).alloc _).alloc _)) (HG.o.ext ((((Ext.refl w).alloc _).alloc _))) (fun j hj=>(HYQ.o j hj).mono hr2) hm6) fun w1 e1=>?_
 have HX1:Hid (Ext w w1):=aj ((((Ext.refl w).alloc _).alloc _).trans e1);have HB0_1:Hid (ax w1 (w.heap.size) (#[.int .i64 (P.n:Int),.slice ro P.m rcap,.slice co P.n ccap]) 32):=aj ((((ax.nw (#[.int .i64 (P.n:Int),.slice ro P.m rcap,.slice co P.n ccap]) 32).alloc _)).ext e1);have HB1_1:Hid (ax w1 (w.heap.size+1) (#[.slice yo P.m ycap]) 36):=aj (((ax.nw (#[.slice yo P.m ycap]) 36)).ext e1);have HGEB0:Hid (w.heap.size<=w.heap.size):=aj (Nat.le_refl _);have HGEB1:Hid (w.heap.size<=w.heap.size+1):=aj ae;clear e1;have c1_0:=HB1_1.o.cell 0 rfl;go_wp2_with fail;refine((HNN.o▸tV (HY0.o.ext HX1.o) hm6)).mono ?_;rintro e w2 ⟨rfl,e2⟩;have HX2:=aj (HX1.o.trans e2);have HB0_2:=aj (HB0_1.o.ext e2);have HB1_2:=aj (HB1_1.o.ext e2);clear e2 c1_0;have c0_0:=HB0_2.o.cell 0 rfl;go_wp2_with fail;refine(fe P.n ae _).mono ?_;rintro e w3 ⟨kz1,CZ1,rfl,e3,g_,b_,c_⟩;have HNB0Bz1:Hid (w.heap.size≠kz1):=aj (Nat.ne_of_lt (Nat.lt_of_lt_of_le HB0_2.o.lt g_));have HNB1Bz1:Hid (w.heap.size+1≠kz1):=aj (Nat.ne_of_lt (Nat.lt_of_lt_of_le HB1_2.o.lt g_));have HGEBz1:Hid (w.heap.size<=kz1):=aj (Nat.le_trans HX2.o.size g_);have HX3:=aj (HX2.o.trans e3);have HB0_3:=aj (HB0_2.o.ext e3);have HB1_3:=aj (HB1_2.o.ext e3);clear e3 c0_0;have HBz1_3:=aj b_;have HCBz1:=aj c_;clear g_ b_ c_;have c1_0:=HB1_3.o.cell 0 rfl;go_wp2_with fail;clear c1_0;go_loopw [30,5] (fun x0_ x1_ wx=>∃ k:Nat,x0_ = .int .i64 k/\x1_ = .string (qs (aN k (fun i=>y i*P.B i)))/\k<=P.m/\Hid (Ext w wx/\ax wx (w.heap.size) (#[.int .i64 (P.n:Int),.slice ro P.m rcap,.slice co P.n ccap]) 32/\ax wx (w.heap.size+1) (#[.slice yo P.m ycap]) 36/\(∃ CK,ax wx kz1 CK 34/\∀ j,j<P.n->CK[j]?=some (.string (qs (rQ P y k j)))))) (fun x0_ _ _=>P.m-(intOf x0_).toNat)
 case atStart=>exact⟨0,rfl,by simp only[aN];rw[cX],Nat.zero_le _,aj ⟨HX3.o,HB0_3.o,HB1_3.o,⟨_,HBz1_3.o,fun j hj=>by rw[xA,cX];exact HCBz1.o j hj⟩⟩⟩
 case round =>
  rename World=>w4
  obtain⟨k,rfl,rfl,hkk,HH⟩:=hrel;have HX4:=aj HH.o.1;have HB0_4:=aj HH.o.2.1;have HB1_4:=aj HH.o.2.2.1;obtain⟨CK,a1_,a2_⟩:=HH.o.2.2.2;have HBz1_4:=aj a1_;have HCK:=aj a2_;clear a1_ a2_;clear HH;by_cases hlt:k<P.m
  ·have hlt2:(k:Int)<((P.m:Nat):Int):=ae;have hltk:k<P.m:=hlt;obtain⟨ra,o_,rfl,zr_,zs_⟩:=HRR.o k hlt;obtain⟨fo,fcap,ef_,_,_,hff_⟩:=HPF.o k hlt;rw[ef_] at zr_;have HFF:=aj hff_;obtain⟨ya,rfl,zy_⟩:=HYY.o k hlt;have HCr:=aj zr_;have HCs:=aj zs_;have HCy:=aj zy_;clear zr_ zs_ ef_ hff_ zy_;have cy_k:=az HX4.o (HCy.o);have c0_1:=HB0_4.o.cell 1 rfl;have cr_o____k___2___1:=az HX4.o (HCs.o);go_wp2_with fail;refine cto (gK (y k) (P.B k) _ (HG.o.ext (HX4.o)) (HYQ.o k hltk) (HQB.o k hlt) ae ae) fun w5 e5=>?_
   have HX5:=aj (HX4.o.trans e5);have HB0_5:=aj (HB0_4.o.ext e5);have HB1_5:=aj (HB1_4.o.ext e5);have HBz1_5:=aj (HBz1_4.o.ext e5);clear e5 cy_k c0_1 cr_o____k___2___1;go_wp2_with fail;refine cto (mf (aN k (fun i=>y i*P.B i)) (y k*P.B k) _ (HG.o.ext (HX5.o)) (HSB.o k ae) ((HYQ.o k hltk).mul (HQB.o k hlt)) ae ae) fun w6 e6=>?_
   have HX6:=aj (HX5.o.trans e6);have HB0_6:=aj (HB0_5.o.ext e6);have HB1_6:=aj (HB1_5.o.ext e6);have HBz1_6:=aj (HBz1_5.o.ext e6);clear e6;have c0_1:=HB0_6.o.cell 1 rfl;have cr_o____k___2:=az HX6.o (HCr.o);go_wp2_with fail;clear c0_1 cr_o____k___2;go_loopw [52] (fun x0_ wx=>∃ j:Nat,x0_ = .int .i64 j/\j<=P.n/\Hid (Ext w wx/\ax wx (w.heap.size) (#[.int .i64 (P.n:Int),.slice (some ⟨ra,o_,none⟩) P.m rcap,.slice co P.n ccap]) 32/\ax wx (w.heap.size+1) (#[.slice (some ya) P.m ycap]) 36/\(∃ CJ,ax wx kz1 CJ 34/\∀ i,i<P.n->CJ[i]?=some (.string (qs (if i<j then rQ P y (k+1) i else rQ P y k i)))))) (fun x0_ _=>P.n-(intOf x0_).toNat)
   case atStart=>exact⟨0,rfl,Nat.zero_le _,aj ⟨HX6.o,HB0_6.o,HB1_6.o,⟨_,HBz1_6.o,fun i hi=>by rw[if_neg (Nat.not_lt_zero i)];exact HCK.o i hi⟩⟩⟩
   case round =>
    rename World=>w7
    obtain⟨j,rfl,hkj,HH⟩:=hrel;have HX7:=aj HH.o.1;have HB0_7:=aj HH.o.2.1;have HB1_7:=aj HH.o.2.2.1;obtain⟨CJ,a1_,a2_⟩:=HH.o.2.2.2;have HBz1_7:=aj a1_;have HCJ:=aj a2_;clear a1_ a2_;clear HH;by_cases hlt:j<P.n
    ·have hlt2:(j:Int)<((P.n:Nat):Int):=ae;obtain⟨fa,rfl,zf_⟩:=HFF.o j hlt;have HCf:=aj zf_;have zj_:=HCJ.o j hlt;rw[if_neg ae] at zj_;have HCj:=aj zj_;clear zf_ zj_;have cf_j:=az HX7.o (HCf.o);go_wp2_with fail;clear cf_j;refine aD [.val (.slice (some ⟨kz1,0,none⟩) P.n P.n),.val (.int .i64 (j:Int)),.val (.slice (some ⟨kz1,0,none⟩) P.n P.n),.val (.int .i64 (j:Int)),.val (.pointer (some ⟨kz1,j,none⟩)),.val (.string (qs (rQ P y k j))),.val (.string (qs (y k))),.val (.string (qs (P.A k j))),.val (.string (qs (y k*P.A k j))),.val (.string (qs (rQ P y k j+y k*P.A k j))),.val (.pointer (some ⟨kz1,j,none⟩)),.aJ] (fun L g W=>(if L 11=true then ax W (kz1) ((CJ).setIfInBounds j (.string (qs (rQ P y k j+y k*P.A k j)))) 34 else ax W (kz1) (CJ) 34)) (S:=fun k=>k=kz1) ag ag ag (Mv.refl HX7.o (fun k h=>(fun e=>Nat.le_trans (show w.heap.size<=kz1 from HGEBz1.o) (Nat.le_of_eq e.symm)) h)) ?_ ?_ ?_ ?_ (fun gv_ w8 hm_ he_=>?_)
     ·exact fun gz_=>(by rw[if_neg af];exact HBz1_7.o.drew)
     ·exact fun L g W W1 h e=>aL (h) (fun h=>h.ext e) (fun h=>h.ext e)
     ·intro i v L g W hi h;have n11_:i≠11:=fun e=>by subst e;exact absurd (show false=true from hi) af
      simp only[av n11_,aw n11_];exact h
     ·skip
      refine RI 4 (.slice (some ⟨kz1,0,none⟩) P.n P.n)<|RI 10 (.int .i64 (j:Int))<|RI 4 (.slice (some ⟨kz1,0,none⟩) P.n P.n)<|RI 10 (.int .i64 (j:Int))<|R2 2 3 ?_;refine RV (fun A_ hs_ K_ hK_=>?_) ?_;· have q61_:=hs_.val 4;have n11_:=hs_.no 11 af ag;have e11_:=hs_.e;rw[if_neg (by rw[n11_];decide)] at e11_;have cz1_j:=e11_.cell (j) HCj.o;clear e11_ n11_;go_simp;exact dS hK_
      refine RI 9 (.string (qs (y k)))<|RI 11 (.string (qs (P.A k j)))<|K2 (fun hs_=>hs_.val 6) (fun hs_=>hs_.val 7) (fun hs_=>gK (y k) (P.A k j) _ (HG.o.ext hs_.mv.ext) (HYQ.o k hltk) (HQA.o k hltk j hlt) ae ae)<|K2 (fun hs_=>hs_.val 5) (fun hs_=>hs_.val 8) (fun hs_=>mf (rQ P y k j) (y k*P.A k j) _ (HG.o.ext hs_.mv.ext) (HSA.o k ae j hlt) ((HYQ.o k hltk).mul (HQA.o k hltk j hlt)) ae ae)<|R2 0 1 ?_;refine aB.cons (fun L_ g_ A_ W_ hs_=>?_) ?_
      ·have q67_:=hs_.val 10;have q66_:=hs_.val 9;refine bQ.aJ fun K_ hK_=>?_;have n_:=hs_.not;have e_:=hs_.e;rw[if_neg (by rw[n_];decide)] at e_;have c_0:=e_.cell (j) HCj.o;have f_0:=e_.free j;have HE_:=aj e_;have HM_:=aj hs_.mv;have HEE_:=aj hs_.e;clear e_ n_;go_simp;exact hK_.o undef _ (HM_.o.setCell (Or.inl (rfl)) _) (by rw[aE,if_pos rfl];exact(HE_.o.set j _))
      exact aB.nil
     simp only[fT,Ke.value,bD,Act.put,List.setIfInBounds_toArray,List.set_cons_zero,List.set_cons_succ];have HX8:Hid (Ext w w8):=aj hm_.ext;have HB0_8:=aj (hm_.aF HB0_7.o (fun h=>((show w.heap.size≠kz1 from HNB0Bz1.o)) h));have HB1_8:=aj (hm_.aF HB1_7.o (fun h=>((show w.heap.size+1≠kz1 from HNB1Bz1.o)) h));have HBz1_8:Hid (ax w8 (kz1) ((CJ).setIfInBounds j (.string (qs (rQ P y k j+y k*P.A k j)))) 34):=aj (by have h_:=he_;rw[if_pos rfl] at h_;exact h_);clear hm_ he_;go_wp2_with fail;go_roundw
     case rel=>exact⟨j+1,by go_num,ae,aj ⟨HX8.o,HB0_8.o,HB1_8.o,⟨_,HBz1_8.o,Ad HCJ.o⟩⟩⟩
     case measure=>simp[intOf];omega
    ·have hk2:j=P.n:=ae;have hge:¬ (j:Int)<((P.n:Nat):Int):=ae;go_wp2_with fail;go_roundw
     case rel=>exact⟨k+1,by go_num,rfl,ae,aj ⟨HX7.o,HB0_7.o,HB1_7.o,⟨_,HBz1_7.o,fun i hi=>by rw[HCJ.o i hi,if_pos ae]⟩⟩⟩
     case measure=>simp[intOf];omega
  ·have hk2:k=P.m:=ae;have hge:¬ (k:Int)<((P.m:Nat):Int):=ae;go_wp2;go_ret3;exact⟨_,rfl,HX4.o,_,_,rfl,HGEBz1.o,HBz1_4.o,fun j hj=>by rw[HCK.o j hj,hk2,Ae]⟩
theorem z7(P:LP)(vr vc:Value)(va:Nat->Value)(q:Nat)(w:World)(g:Gd w)(hP:PM P w vr vc va)(vy:Value)(m:Nat)(t:Nat->ByteArray)(hT:Rs w vy m t)(hts:∀ i,i<m->(t i).size<=1000000)(hm6:m<=1000000)(hle:fU t m P.m≠0)(Q:PQ P)(hn:P.n<=60)(hm:P.m<=300)(hq1:1<=q)(hq2:q<=200)(qa:∀ i,i<P.m->∀ j,j<P.n->QB q (P.A i j)):Calls prog 140 #[.agg #[.int .i64 (P.n:Int),vr,vc],.agg #[vy]] w (aR w (.tuple #[.slice none 0 0,.string ⟨#[]⟩,.int .i64 (fU t m P.m)])):=by
 have HPM:=aj hP;have HT:=aj hT;have HTS:=aj hts;have HG:=aj g;have HQA:=aj qa;have HQP:=aj Q;clear hP hT hts g qa Q;have HPO:=aj HPM.o.obj;have HPF:=aj HPM.o.j1;obtain⟨co,ccap,ec_,_⟩:=HPM.o.obj;obtain⟨ro,rcap,er_,_,_,hrr⟩:=HPM.o.rows;subst er_ ec_;have HRR:=aj hrr;clear hrr;obtain⟨yo,ycap,ey_,_,_,hyy⟩:=HT.o;subst ey_;clear hyy;go_enter func140,ntmps140;have hz2:¬ fU t m P.m=0:=hle;go_wp2_with fail;refine cto (pw (HG.o.ext ((((Ext.refl w).alloc _).alloc _))) (HT.o.ext (((Ext.refl w).alloc _).alloc _)) HTS.o hm6) fun w1 e1=>?_
 have HX1:Hid (Ext w w1):=aj ((((Ext.refl w).alloc _).alloc _).trans e1);clear e1;go_wp2;go_ret3;exact⟨rfl,HX1.o⟩
theorem z6(P:LP)(vr vc:Value)(va:Nat->Value)(q:Nat)(w:World)(g:Gd w)(hP:PM P w vr vc va)(vy:Value)(y:Nat->Rat)(r:Nat)(hy:Rq w vy P.m y)(hr:∀ i,i<P.m->QB r (y i))(hr2:r<=200)(hnn:gG (fun i=>decide (y i<0)) P.m=true)(Q:PQ P)(hn:P.n<=60)(hm:P.m<=300)(hq1:1<=q)(hq2:q<=200)(qa:∀ i,i<P.m->∀ j,j<P.n->QB q (P.A i j)):Calls prog 140 #[.agg #[.int .i64 (P.n:Int),vr,vc],.agg #[vy]] w (aR w (.tuple #[.slice none 0 0,.string ⟨#[]⟩,.int .i64 3])):=by
 have HPM:=aj hP;have HNN:=aj hnn;have HYR:=aj hy;have HYQ:=aj hr;have HG:=aj g;have HQA:=aj qa;have HQP:=aj Q;clear hP hnn hy hr g qa Q;have hm6:P.m<=1000000:=ae;have HPO:=aj HPM.o.obj;have HPF:=aj HPM.o.j1;obtain⟨co,ccap,ec_,_⟩:=HPM.o.obj;obtain⟨ro,rcap,er_,_,_,hrr⟩:=HPM.o.rows;subst er_ ec_;have HRR:=aj hrr;clear hrr;have HY0:=aj HYR.o;obtain⟨yo,ycap,ey_,_,_,hyy⟩:=HYR.o;subst ey_;have HYY:=aj hyy;clear hyy;go_enter func140,ntmps140;go_wp2_with fail;refine cto (tP (HY0.o.ext (((Ext.refl w).alloc _).alloc _)) (HG.o.ext ((((Ext.refl w).alloc _).alloc _))) (fun j hj=>(HYQ.o j hj).mono hr2) hm6) fun w1 e1=>?_
 have HX1:Hid (Ext w w1):=aj ((((Ext.refl w).alloc _).alloc _).trans e1);have HB1_1:Hid (ax w1 (w.heap.size+1) (#[.slice yo P.m ycap]) 36):=aj (((ax.nw (#[.slice yo P.m ycap]) 36)).ext e1);have HGEB1:Hid (w.heap.size<=w.heap.size+1):=aj ae;clear e1;have c1_0:=HB1_1.o.cell 0 rfl;go_wp2_with fail;refine((HNN.o▸tV (HY0.o.ext HX1.o) hm6)).mono ?_;rintro e w2 ⟨rfl,e2⟩;have HX2:=aj (HX1.o.trans e2);clear e2 c1_0;go_wp2;go_ret3;exact⟨rfl,HX2.o⟩
noncomputable def qv (t:ByteArray):Rat:=open Classical in if h:∃ x,t=qs x then h.choose else 0
theorem Bl(x:Rat):qv (qs x)=x:=by
 have h:∃ z,qs x=qs z:=⟨x,rfl⟩
 rw[qv,dif_pos h];exact(sr.1 h.choose_spec).symm
noncomputable abbrev yq (t:Nat->ByteArray) (i:Nat):Rat:=qv (t i)
noncomputable def jr (t:Nat->ByteArray) (m k:Nat):Int:=if fU t m k≠0 then fU t m k else if gG (fun i=>decide (yq t i<0)) m=true then 3 else 0
def Dc(t:Nat->ByteArray)(m r:Nat):Prop:=∀ i,i<m->rq (t i)=true->∃ x,t i=qs x/\QB r x
theorem AM{t:Nat->ByteArray}{m k r:Nat}(h:fU t m k=0)(hq:Dc t m r):m=k/\∀ i,i<m->t i=qs (yq t i)/\QB r (yq t i):=by
 rw[fU] at h;split at h
 ·cases h
 ·rename_i h1;split at h
  ·cases h
  ·rename_i h2;refine⟨Classical.not_not.1 h1,fun i hi=>?_⟩;rw[Bool.not_eq_true,any_false] at h2;obtain⟨x,hx,hb⟩:=hq i hi (by have:=h2 i hi;simpa using this);rw[yq,hx,Bl];exact⟨rfl,hb⟩
def D8(P:LP)(t:Nat->ByteArray)(m:Nat)(w:World)(e:Ending)(w':World):Prop:=Ext w w' /\
 ((e = .returned (.tuple #[.slice none 0 0,.string ⟨#[]⟩,.int .i64 (jr t m P.m)])/\jr t m P.m≠0) ∨
  (∃ vf,e = .returned (.tuple #[vf,.string (qs (P.ib (yq t))),.int .i64 0])/\jr t m P.m=0/\(∀ i,i<P.m->QB 200 (yq t i))/\Nq w w' vf P.n (P.comb (yq t))))
theorem BR (P:LP) (vr vc:Value) (va:Nat->Value) (q:Nat) (w:World) (g:Gd w) (hP:PM P w vr vc va) (vy:Value) (m:Nat) (t:Nat->ByteArray) (r:Nat) (hT:Rs w vy m t) (hts:∀ i,i<m->(t i).size<=1000000) (hm6:m<=1000000) (hq:Dc t m r) (hr2:r<=200) (hsz:P.m*(r+q+1)<=198) (qb:∀ i,i<P.m->QB q (P.B i))
    (Q:PQ P) (hn:P.n<=60) (hm:P.m<=300) (hq1:1<=q) (hq2:q<=200) (qa:∀ i,i<P.m->∀ j,j<P.n->QB q (P.A i j)):Calls prog 140 #[.agg #[.int .i64 (P.n:Int),vr,vc],.agg #[vy]] w (D8 P t m w):=by
 by_cases hle:fU t m P.m=0
 ·obtain⟨rfl,hx⟩:=AM hle hq;have hy:Rq w vy P.m (yq t):=hT.congr fun i hi=>by rw[← (hx i hi).1]
  by_cases hnn:gG (fun i=>decide (yq t i<0)) P.m=true
  ·refine(z6 P vr vc va q w g hP vy (yq t) r hy (fun i hi=>(hx i hi).2) hr2 hnn Q hn hm hq1 hq2 qa).mono ?_;rintro e w' ⟨rfl,e1⟩;have:jr t P.m P.m=3:=by rw[jr,if_neg (fun h=>h hle),if_pos hnn]
   exact⟨e1,Or.inl ⟨by rw[this],by rw[this];decide⟩⟩
  ·refine(zZ P vr vc va q w g hP vy (yq t) r hy (fun i hi=>(hx i hi).2) hr2 hsz qb (by simpa using hnn) Q hn hm hq1 hq2 qa).mono ?_;rintro e w' ⟨vf,rfl,e1,h1⟩;exact⟨e1,Or.inr ⟨vf,rfl,by rw[jr,if_neg (fun h=>h hle),if_neg hnn],fun i hi=>(hx i hi).2.mono hr2,h1⟩⟩
 ·refine(z7 P vr vc va q w g hP vy m t hT hts hm6 hle Q hn hm hq1 hq2 qa).mono ?_;rintro e w' ⟨rfl,e1⟩;have:jr t m P.m=fU t m P.m:=by rw[jr,if_pos hle]
  exact⟨e1,Or.inl ⟨by rw[this],by rw[this];exact hle⟩⟩
noncomputable def zO (P:LP) (t:Nat->ByteArray) (m:Nat):Int:=open Classical in if jr t m P.m≠0 then jr t m P.m else if P.ib (yq t)<0/\(∀ j,j<P.n->P.comb (yq t) j=0) then 0 else 23
theorem Ep(x:Rat):(x.num.sign=-1/\x<0)∨(x.num.sign=0/\¬ x<0)∨(x.num.sign=1/\¬ x<0):=by
 by_cases h:x<0
 ·exact Or.inl ⟨gP h,h⟩
 ·by_cases h0:x=0
  ·exact Or.inr (Or.inl ⟨by rw[h0];rfl,h⟩)
  ·exact Or.inr (Or.inr ⟨gO (by grind),h⟩)
theorem tS(x:Rat):mz (qs x)=decide (x≠0):=by rw[mz,← cX];exact decide_eq_decide.2 (not_congr sr)
theorem Cj{f:Nat->Rat}{n:Nat}(h:gG (fun i=>mz (qs (f i))) n=true)(h2:∀ j,j<n->f j=0):False:=by
 obtain⟨i,hi,e⟩:=any_true.1 h;rw[tS,decide_eq_true_iff] at e;exact e (h2 i hi)
theorem DG{f:Nat->Rat}{n:Nat}(h:gG (fun i=>mz (qs (f i))) n=false):∀ j,j<n->f j=0:=fun j hj=>by
 have:=any_false.1 h j hj;rw[tS,decide_eq_false_iff_not] at this;exact Classical.not_not.1 this
theorem sA(P:LP)(vr vc:Value)(va:Nat->Value)(q:Nat)(w:World)(g:Gd w)(hP:PM P w vr vc va)(vy:Value)(m:Nat)(t:Nat->ByteArray)(r:Nat)(hT:Rs w vy m t)(hts:∀ i,i<m->(t i).size<=1000000)(hm6:m<=1000000)(hq:Dc t m r)(hr2:r<=200)(hsz:P.m*(r+q+1)<=198)(qb:∀ i,i<P.m->QB q (P.B i))(Q:PQ P)(hn:P.n<=60)(hm:P.m<=300)(hq1:1<=q)(hq2:q<=200)(qa:∀ i,i<P.m->∀ j,j<P.n->QB q (P.A i j)):Calls prog 59 #[.agg #[.int .i64 (P.n:Int),vr,vc],.agg #[vy]] w (aR w (.int .i64 (zO P t m))):=by
 have HPM:=aj hP;have HT:=aj hT;have HTS:=aj hts;have HTQ:=aj hq;have HQB:=aj qb;have HG:=aj g;have HQA:=aj qa;have HQP:=aj Q;clear hP hT hts hq qb g qa Q;have HPO:=aj HPM.o.obj;have HPF:=aj HPM.o.j1;obtain⟨co,ccap,ec_,_⟩:=HPM.o.obj;obtain⟨ro,rcap,er_,_,_,hrr⟩:=HPM.o.rows;subst er_ ec_;have HRR:=aj hrr;clear hrr;have HT0:=aj HT.o;obtain⟨yo,ycap,ey_,_,_,hyy⟩:=HT.o;subst ey_;clear hyy;go_enter func59,ntmps59;go_wp2_with fail;refine cto (ns P _ _ va _ (HG.o.ext ((((Ext.refl w).alloc _).alloc _))) (HPM.o.ext (((Ext.refl w).alloc _).alloc _)) HQP.o hn hm) fun w1 e1=>?_
 have HX1:Hid (Ext w w1):=aj ((((Ext.refl w).alloc _).alloc _).trans e1);have HB0_1:Hid (ax w1 (w.heap.size) (#[.int .i64 (P.n:Int),.slice ro P.m rcap,.slice co P.n ccap]) 32):=aj ((((ax.nw (#[.int .i64 (P.n:Int),.slice ro P.m rcap,.slice co P.n ccap]) 32).alloc _)).ext e1);have HB1_1:Hid (ax w1 (w.heap.size+1) (#[.slice yo m ycap]) 36):=aj (((ax.nw (#[.slice yo m ycap]) 36)).ext e1);have HGEB0:Hid (w.heap.size<=w.heap.size):=aj (Nat.le_refl _);have HGEB1:Hid (w.heap.size<=w.heap.size+1):=aj ae;clear e1;have c0_0:=HB0_1.o.cell 0 rfl;have c0_1:=HB0_1.o.cell 1 rfl;have c0_2:=HB0_1.o.cell 2 rfl;have c1_0:=HB1_1.o.cell 0 rfl;go_wp2_with fail;refine(BR P _ _ va q _ (HG.o.ext (HX1.o)) (HPM.o.ext HX1.o) _ m t r (HT0.o.ext HX1.o) HTS.o hm6 HTQ.o hr2 hsz HQB.o HQP.o hn hm hq1 hq2 HQA.o).mono ?_;rintro e w2 ⟨e2,h_⟩;have HX2:=aj (HX1.o.trans e2);have HB0_2:=aj (HB0_1.o.ext e2);have HB1_2:=aj (HB1_1.o.ext e2);clear e2 c0_0 c0_1 c0_2 c1_0;rcases h_ with⟨rfl,hc⟩|⟨vf,rfl,hm0,hyq,hnq⟩
 ·have HME:=aj hc;have hz2:¬ jr t m P.m=0:=hc;clear hc;go_wp2;go_ret;exact⟨by rw[zO,if_pos HME.o];rfl,HX2.o⟩
 ·have HM0:=aj hm0;have HYQ:=aj hyq;clear hm0 hyq;obtain⟨fk,CF,rfl,gf_,bf_,cf_⟩:=hnq;have HNF:=aj (⟨fk,CF,rfl,gf_,bf_,cf_⟩:Nq _ _ _ P.n (P.comb (yq t)));have HCF:=aj cf_;have HBF0:=aj bf_;clear gf_ bf_ cf_;go_upto_region 7 with fail
  rcases Ep (P.ib (yq t)) with⟨h1,h2⟩|⟨h1,h2⟩|⟨h1,h2⟩
  ·have HSG:=aj h1;clear h1;by_cases hz:gG (fun i=>mz (qs (P.comb (yq t) i))) P.n=true
   ·have HNZ:=aj hz;go_wp2_with fail;refine((HSG.o▸di (P.ib (yq t)) _)).mono ?_;rintro e _ ⟨rfl,rfl⟩;go_wp2_with fail;refine((HNZ.o▸yk (Rd.aF HBF0.o (Nat.le_refl _) (dW ae) HCF.o) ae)).mono ?_;rintro e w3 ⟨rfl,e3⟩;have HX3:=aj (HX2.o.trans e3);have HBf_3:=aj (HBF0.o.ext e3);clear e3;go_wp2;go_ret;exact⟨by rw[zO,if_neg (fun h=>h HM0.o),if_neg (fun h=>Cj hz h.2)];rfl,HX3.o⟩
   ·have hz3:gG (fun i=>mz (qs (P.comb (yq t) i))) P.n=false:=by simpa using hz
    have HNZ:=aj hz3;go_wp2_with fail;refine((HSG.o▸di (P.ib (yq t)) _)).mono ?_;rintro e _ ⟨rfl,rfl⟩;go_wp2_with fail;refine((HNZ.o▸yk (Rd.aF HBF0.o (Nat.le_refl _) (dW ae) HCF.o) ae)).mono ?_;rintro e w3 ⟨rfl,e3⟩;have HX3:=aj (HX2.o.trans e3);have HBf_3:=aj (HBF0.o.ext e3);clear e3;go_wp2;go_ret;exact⟨by rw[zO,if_neg (fun h=>h HM0.o),if_pos ⟨h2,DG HNZ.o⟩];rfl,HX3.o⟩
  ·have HSG:=aj h1;clear h1;go_wp2_with fail;refine((HSG.o▸di (P.ib (yq t)) _)).mono ?_;rintro e _ ⟨rfl,rfl⟩;go_wp2;go_ret;exact⟨by rw[zO,if_neg (fun h=>h HM0.o),if_neg (fun h=>absurd h.1 h2)];rfl,HX2.o⟩
  ·have HSG:=aj h1;clear h1;go_wp2_with fail;refine((HSG.o▸di (P.ib (yq t)) _)).mono ?_;rintro e _ ⟨rfl,rfl⟩;go_wp2;go_ret;exact⟨by rw[zO,if_neg (fun h=>h HM0.o),if_neg (fun h=>absurd h.1 h2)];rfl,HX2.o⟩
noncomputable def gF (P:LP) (t:Nat->ByteArray) (m:Nat):ByteArray × Int:=open Classical in if jr t m P.m≠0 then(⟨#[]⟩,jr t m P.m) else if (∀ j,j<P.n->P.comb (yq t) j=-P.C j) then(qs (-P.ib (yq t)),0) else(⟨#[]⟩,23)
def Bx(kd:Int)(val:ByteArray)(np nd nr:Nat):Int:=if kd<1∨3<kd then 12 else if (kd≠1/\val≠⟨#[]⟩)∨(kd=2/\0<np)∨(kd=3/\0<nd)∨(kd≠3/\0<nr) then 7 else 0
noncomputable def j1 (P:LP) (t:Nat->ByteArray) (m:Nat):Int:=open Classical in if fU t m P.n≠0 then fU t m P.n else if P.obj (yq t)<0/\(∀ k,k<P.m->(aN P.n (fun j=>P.A k j*yq t j))<=0) then 0 else 23
noncomputable def BJ (P:LP) (kd:Int) (val:ByteArray) (t1:Nat->ByteArray) (m1:Nat) (t2:Nat->ByteArray) (m2:Nat) (t3:Nat->ByteArray) (m3:Nat):Int :=
 if Bx kd val m1 m2 m3≠0 then Bx kd val m1 m2 m3 else if kd=2 then zO P t2 m2 else if fU t1 m1 P.n≠0 then fU t1 m1 P.n else if 0<(rR (EN P (yq t1)) P.m).length then 23 else if kd=3 then j1 P t3 m3
 else if rq val=true then(if (gF P t2 m2).2≠0 then(gF P t2 m2).2 else if (gF P t2 m2).1≠val∨qs (P.obj (yq t1))≠val then 23 else 0) else 2
theorem bh.vK{X w:World}{t:TypeId}{sz n:Nat}{v:Value}{G:Nat->Value}(h:bh X w t sz v n G):∃ a c,v = .slice a n c:=by
 rcases h with⟨rfl,rfl⟩|⟨k,cap,C,rfl,_⟩
 ·exact⟨_,_,rfl⟩
 ·exact⟨_,_,rfl⟩
theorem mg:qs 3=⟨#[51]⟩:=by
 have:=po 3;rw[show((3:Int):Rat)=3 by rfl] at this;rw[this];unfold zs;rw[bI af];show(⟨(Lib.decDigits 3).toArray⟩:ByteArray)=_;rw[Lib.decDigits,dif_pos af];rfl
theorem jq(a:Int)(d:Nat)(w:World)(g:Gd w)(ha:-1000<a)(ha2:a<1000)(hd:d≠0)(hd2:d<1000):Calls prog 46 #[.int .i64 a,.int .i64 (d:Int)] w (aR w (.string (qs (mkRat a d)))):=by
 have HG:=aj g;clear g;have HIA:Hid (IB 3 a):=aj ⟨by rw[show(10:Nat) ^ 3=1000 by rfl];omega⟩;have HID:Hid (IB 3 (d:Int)):=aj ⟨by rw[show(10:Nat) ^ 3=1000 by rfl];omega⟩;go_enter func46,ntmps46;go_wp2_with fail;refine cto (mV a ae ae _ (HG.o.ext ((Ext.refl w)))) fun w1 e1=>?_
 have HX1:Hid (Ext w w1):=aj ((Ext.refl w).trans e1);clear e1;go_wp2_with fail;refine cto (mV _ ae ae _ (HG.o.ext (HX1.o))) fun w2 e2=>?_
 have HX2:=aj (HX1.o.trans e2);clear e2;go_wp2_with fail;refine cto (AA a d _ (HG.o.ext (HX2.o)) hd HIA.o HID.o af af) fun w3 e3=>?_
 have HX3:=aj (HX2.o.trans e3);clear e3;go_wp2;go_ret;exact⟨rfl,HX3.o⟩
def l3(a b c:Int)(j:Nat):Rat:=if j=0 then mkRat a 1 else if j=1 then mkRat b 1 else mkRat c 1
def nC(a b c:Int)(j:Nat):Value:=.string (qs (l3 a b c j))
theorem eg(i:Int):-9<=i.tmod 10/\i.tmod 10<=9:=by
 have h:=Int.natAbs_tmod i 10;have:=Nat.mod_lt i.natAbs (y:=10) af;simp only[show(10:Int).natAbs=10 from rfl] at h;omega
theorem iQ{X w w':World}{e:TypeId}{n:Nat}{v v':Value}{G:Nat->Value}{u:Value}(h:App X w e 1 v n 1 G (fun _=>u) v' w')(hu:u=G n):bh X w' e 1 v' (n+1) G :=
 h.own.congr fun i hi=>by
  by_cases h1:i<n*1
  ·rw[dF h1]
  ·rw[dw h1,hu,show i=n by omega]
theorem bh.empty{X w:World}{t:TypeId}{k:Nat}{G:Nat->Value}(hk:X.heap.size<=k)(h:ax w k #[] t):bh X w t 1 (.slice (some ⟨k,0,none⟩) 0 0) 0 G :=
 Or.inr ⟨k,0,#[],rfl,hk,h,Nat.le_refl _,by unfold maxLen;omega,rfl,fun i hi=>absurd hi ae⟩
def zF(w:World)(d0 d1 d2:Int)(n:Nat)(e:Ending)(w':World):Prop:=∃ v,e = .returned v/\Ext w w'/\bh w w' 34 1 v n (nC d0 d1 d2)
theorem yH(a0 a1 a2 d0 d1 d2:Int)(w:World)(g:Gd w)(h0:-128<=a0/\a0<=127)(e0:a0.tmod 10=d0)(h1:-128<=a1/\a1<=127)(e1:a1.tmod 10=d1)(h2:-128<=a2/\a2<=127)(e2:a2.tmod 10=d2):Calls prog 45 #[.agg #[.int .i8 a0,.int .i8 a1,.int .i8 a2],.int .i64 0] w (zF w d0 d1 d2 0):=by
 have HG:=aj g;clear g;have w0_:IntKind.i64.wrap a0=a0:=IntWalk.i64_in a0 ae;have k0_:=eg a0;rw[e0] at k0_;have w1_:IntKind.i64.wrap a1=a1:=IntWalk.i64_in a1 ae;have k1_:=eg a1;rw[e1] at k1_;have w2_:IntKind.i64.wrap a2=a2:=IntWalk.i64_in a2 ae;have k2_:=eg a2;rw[e2] at k2_;go_enter func45,ntmps45;go_wp2_with fail;refine ay (fun W=>Ext w W/\ax W (w.heap.size+1) (#[]) 34) ⟨(((Ext.refl w).alloc _).alloc _),(ax.nw (#[]) 34)⟩ ?_;rintro w1 ⟨e1,bB1_1⟩;have HX1:=aj e1;have HB1_1:=aj bB1_1;have HGEB1:Hid (w.heap.size<=w.heap.size+1):=aj ae;clear e1 bB1_1;have HOL_1:Hid (bh w w1 34 1 (.slice (some ⟨w.heap.size+1,0,none⟩) 0 0) 0 (nC d0 d1 d2)):=aj (bh.empty HGEB1.o HB1_1.o);go_wp2_with fail;refine wp_loop_rounds 1 ?_;rw[rounds_succ];go_wp2;go_ret;exact⟨_,rfl,HX1.o,HOL_1.o⟩
theorem yG(a0 a1 a2 d0 d1 d2:Int)(w:World)(g:Gd w)(h0:-128<=a0/\a0<=127)(e0:a0.tmod 10=d0)(h1:-128<=a1/\a1<=127)(e1:a1.tmod 10=d1)(h2:-128<=a2/\a2<=127)(e2:a2.tmod 10=d2):Calls prog 45 #[.agg #[.int .i8 a0,.int .i8 a1,.int .i8 a2],.int .i64 1] w (zF w d0 d1 d2 1):=by
 have HG:=aj g;clear g;have w0_:IntKind.i64.wrap a0=a0:=IntWalk.i64_in a0 ae;have k0_:=eg a0;rw[e0] at k0_;have w1_:IntKind.i64.wrap a1=a1:=IntWalk.i64_in a1 ae;have k1_:=eg a1;rw[e1] at k1_;have w2_:IntKind.i64.wrap a2=a2:=IntWalk.i64_in a2 ae;have k2_:=eg a2;rw[e2] at k2_;go_enter func45,ntmps45;go_wp2_with fail;refine ay (fun W=>Ext w W/\ax W (w.heap.size) (#[.int .i8 a0,.int .i8 a1,.int .i8 a2]) 24/\ax W (w.heap.size+1) (#[]) 34) ⟨(((Ext.refl w).alloc _).alloc _),((ax.nw (#[.int .i8 a0,.int .i8 a1,.int .i8 a2]) 24).alloc _),(ax.nw (#[]) 34)⟩ ?_;rintro w1 ⟨e1,bB0_1,bB1_1⟩;have HX1:=aj e1;have HB0_1:=aj bB0_1;have HB1_1:=aj bB1_1;have HGEB0:Hid (w.heap.size<=w.heap.size):=aj (Nat.le_refl _);have HGEB1:Hid (w.heap.size<=w.heap.size+1):=aj ae;clear e1 bB0_1 bB1_1;have HOL_1:Hid (bh w w1 34 1 (.slice (some ⟨w.heap.size+1,0,none⟩) 0 0) 0 (nC d0 d1 d2)):=aj (bh.empty HGEB1.o HB1_1.o);go_wp2_with fail;refine wp_loop_rounds 2 ?_;rw[rounds_succ];have c0_0:=HB0_1.o.cell 0 rfl;go_wp2_with fail;refine cto (jq d0 1 _ (HG.o.ext (HX1.o)) ae ae af af) fun w2 e2=>?_
 have HX2:=aj (HX1.o.trans e2);have HOL_2:=aj (HOL_1.o.ext e2);clear e2 c0_0;go_wp2_with (
  at_builtin;refine wpList_plain rfl fun K_ hK_=>bE (X:=w) (H:=fun _ => .string (qs (mkRat d0 1))) (ad:=⟨w2.heap.size,0,none⟩) (m:=1) (c:=1) (v:=.slice (some ⟨w.heap.size+1,0,none⟩) 0 0) rfl rfl rfl dC dQ rfl (HX2.o.alloc _) (HOL_2.o.alloc _) (fun _=>af) (fun j hj=>by obtain rfl:j=0:=ae;exact cZ (ax.nw (#[.string (qs (mkRat d0 1))]) 34) rfl) (fun _ _=>rfl) (by unfold maxLen;omega) ae (fun a3_ n3_ c3_ w3 hA_=>hK_ _ _ ?_)
  have HX3:Hid (Ext w w3):=aj hA_.mv.ext;have HOL_3:Hid (bh w w3 34 1 (.slice a3_ n3_ c3_) 1 (nC d0 d1 d2)):=aj (iQ hA_ rfl);clear hA_
 )
 rw[rounds_succ];go_wp2;go_ret;exact⟨_,rfl,HX3.o,HOL_3.o⟩
theorem yF(a0 a1 a2 d0 d1 d2:Int)(w:World)(g:Gd w)(h0:-128<=a0/\a0<=127)(e0:a0.tmod 10=d0)(h1:-128<=a1/\a1<=127)(e1:a1.tmod 10=d1)(h2:-128<=a2/\a2<=127)(e2:a2.tmod 10=d2):Calls prog 45 #[.agg #[.int .i8 a0,.int .i8 a1,.int .i8 a2],.int .i64 2] w (zF w d0 d1 d2 2):=by
 have HG:=aj g;clear g;have w0_:IntKind.i64.wrap a0=a0:=IntWalk.i64_in a0 ae;have k0_:=eg a0;rw[e0] at k0_;have w1_:IntKind.i64.wrap a1=a1:=IntWalk.i64_in a1 ae;have k1_:=eg a1;rw[e1] at k1_;have w2_:IntKind.i64.wrap a2=a2:=IntWalk.i64_in a2 ae;have k2_:=eg a2;rw[e2] at k2_;go_enter func45,ntmps45;go_wp2_with fail;refine ay (fun W=>Ext w W/\ax W (w.heap.size) (#[.int .i8 a0,.int .i8 a1,.int .i8 a2]) 24/\ax W (w.heap.size+1) (#[]) 34) ⟨(((Ext.refl w).alloc _).alloc _),((ax.nw (#[.int .i8 a0,.int .i8 a1,.int .i8 a2]) 24).alloc _),(ax.nw (#[]) 34)⟩ ?_;rintro w1 ⟨e1,bB0_1,bB1_1⟩;have HX1:=aj e1;have HB0_1:=aj bB0_1;have HB1_1:=aj bB1_1;have HGEB0:Hid (w.heap.size<=w.heap.size):=aj (Nat.le_refl _);have HGEB1:Hid (w.heap.size<=w.heap.size+1):=aj ae;clear e1 bB0_1 bB1_1;have HOL_1:Hid (bh w w1 34 1 (.slice (some ⟨w.heap.size+1,0,none⟩) 0 0) 0 (nC d0 d1 d2)):=aj (bh.empty HGEB1.o HB1_1.o);go_wp2_with fail;refine wp_loop_rounds 3 ?_;rw[rounds_succ];have c0_0:=HB0_1.o.cell 0 rfl;go_wp2_with fail;refine cto (jq d0 1 _ (HG.o.ext (HX1.o)) ae ae af af) fun w2 e2=>?_
 have HX2:=aj (HX1.o.trans e2);have HB0_2:=aj (HB0_1.o.ext e2);have HOL_2:=aj (HOL_1.o.ext e2);clear e2 c0_0;go_wp2_with (
  at_builtin;refine wpList_plain rfl fun K_ hK_=>bE (X:=w) (H:=fun _ => .string (qs (mkRat d0 1))) (ad:=⟨w2.heap.size,0,none⟩) (m:=1) (c:=1) (v:=.slice (some ⟨w.heap.size+1,0,none⟩) 0 0) rfl rfl rfl dC dQ rfl (HX2.o.alloc _) (HOL_2.o.alloc _) (fun _=>af) (fun j hj=>by obtain rfl:j=0:=ae;exact cZ (ax.nw (#[.string (qs (mkRat d0 1))]) 34) rfl) (fun _ _=>rfl) (by unfold maxLen;omega) ae (fun a3_ n3_ c3_ w3 hA_=>hK_ _ _ ?_)
  have HX3:Hid (Ext w w3):=aj hA_.mv.ext;have HB0_3:Hid (ax w3 (w.heap.size) (#[.int .i8 a0,.int .i8 a1,.int .i8 a2]) 24):=aj (hA_.mv.aF (HB0_2.o.alloc _) (bh.aI HOL_2.o HB0_2.o af));have HOL_3:Hid (bh w w3 34 1 (.slice a3_ n3_ c3_) 1 (nC d0 d1 d2)):=aj (iQ hA_ rfl);clear hA_
 )
 rw[rounds_succ];have c0_1:=HB0_3.o.cell 1 rfl;go_wp2_with fail;refine cto (jq d1 1 _ (HG.o.ext (HX3.o)) ae ae af af) fun w4 e4=>?_
 have HX4:=aj (HX3.o.trans e4);have HOL_4:=aj (HOL_3.o.ext e4);clear e4 c0_1;go_wp2_with (
  at_builtin;refine wpList_plain rfl fun K_ hK_=>bE (X:=w) (H:=fun _ => .string (qs (mkRat d1 1))) (ad:=⟨w4.heap.size,0,none⟩) (m:=1) (c:=1) (v:=.slice a3_ n3_ c3_) rfl rfl rfl dC dQ rfl (HX4.o.alloc _) (HOL_4.o.alloc _) (fun _=>af) (fun j hj=>by obtain rfl:j=0:=ae;exact cZ (ax.nw (#[.string (qs (mkRat d1 1))]) 34) rfl) (fun _ _=>rfl) (by unfold maxLen;omega) ae (fun a5_ n5_ c5_ w5 hA_=>hK_ _ _ ?_)
  have HX5:Hid (Ext w w5):=aj hA_.mv.ext;have HOL_5:Hid (bh w w5 34 1 (.slice a5_ n5_ c5_) 2 (nC d0 d1 d2)):=aj (iQ hA_ rfl);clear hA_
 )
 rw[rounds_succ];go_wp2;go_ret;exact⟨_,rfl,HX5.o,HOL_5.o⟩
theorem yE(a0 a1 a2 d0 d1 d2:Int)(w:World)(g:Gd w)(h0:-128<=a0/\a0<=127)(e0:a0.tmod 10=d0)(h1:-128<=a1/\a1<=127)(e1:a1.tmod 10=d1)(h2:-128<=a2/\a2<=127)(e2:a2.tmod 10=d2):Calls prog 45 #[.agg #[.int .i8 a0,.int .i8 a1,.int .i8 a2],.int .i64 3] w (zF w d0 d1 d2 3):=by
 have HG:=aj g;clear g;have w0_:IntKind.i64.wrap a0=a0:=IntWalk.i64_in a0 ae;have k0_:=eg a0;rw[e0] at k0_;have w1_:IntKind.i64.wrap a1=a1:=IntWalk.i64_in a1 ae;have k1_:=eg a1;rw[e1] at k1_;have w2_:IntKind.i64.wrap a2=a2:=IntWalk.i64_in a2 ae;have k2_:=eg a2;rw[e2] at k2_;go_enter func45,ntmps45;go_wp2_with fail;refine ay (fun W=>Ext w W/\ax W (w.heap.size) (#[.int .i8 a0,.int .i8 a1,.int .i8 a2]) 24/\ax W (w.heap.size+1) (#[]) 34) ⟨(((Ext.refl w).alloc _).alloc _),((ax.nw (#[.int .i8 a0,.int .i8 a1,.int .i8 a2]) 24).alloc _),(ax.nw (#[]) 34)⟩ ?_;rintro w1 ⟨e1,bB0_1,bB1_1⟩;have HX1:=aj e1;have HB0_1:=aj bB0_1;have HB1_1:=aj bB1_1;have HGEB0:Hid (w.heap.size<=w.heap.size):=aj (Nat.le_refl _);have HGEB1:Hid (w.heap.size<=w.heap.size+1):=aj ae;clear e1 bB0_1 bB1_1;have HOL_1:Hid (bh w w1 34 1 (.slice (some ⟨w.heap.size+1,0,none⟩) 0 0) 0 (nC d0 d1 d2)):=aj (bh.empty HGEB1.o HB1_1.o);go_wp2_with fail;refine wp_loop_rounds 4 ?_;rw[rounds_succ];have c0_0:=HB0_1.o.cell 0 rfl;go_wp2_with fail;refine cto (jq d0 1 _ (HG.o.ext (HX1.o)) ae ae af af) fun w2 e2=>?_
 have HX2:=aj (HX1.o.trans e2);have HB0_2:=aj (HB0_1.o.ext e2);have HOL_2:=aj (HOL_1.o.ext e2);clear e2 c0_0;go_wp2_with (
  at_builtin;refine wpList_plain rfl fun K_ hK_=>bE (X:=w) (H:=fun _ => .string (qs (mkRat d0 1))) (ad:=⟨w2.heap.size,0,none⟩) (m:=1) (c:=1) (v:=.slice (some ⟨w.heap.size+1,0,none⟩) 0 0) rfl rfl rfl dC dQ rfl (HX2.o.alloc _) (HOL_2.o.alloc _) (fun _=>af) (fun j hj=>by obtain rfl:j=0:=ae;exact cZ (ax.nw (#[.string (qs (mkRat d0 1))]) 34) rfl) (fun _ _=>rfl) (by unfold maxLen;omega) ae (fun a3_ n3_ c3_ w3 hA_=>hK_ _ _ ?_)
  have HX3:Hid (Ext w w3):=aj hA_.mv.ext;have HB0_3:Hid (ax w3 (w.heap.size) (#[.int .i8 a0,.int .i8 a1,.int .i8 a2]) 24):=aj (hA_.mv.aF (HB0_2.o.alloc _) (bh.aI HOL_2.o HB0_2.o af));have HOL_3:Hid (bh w w3 34 1 (.slice a3_ n3_ c3_) 1 (nC d0 d1 d2)):=aj (iQ hA_ rfl);clear hA_
 )
 rw[rounds_succ];have c0_1:=HB0_3.o.cell 1 rfl;go_wp2_with fail;refine cto (jq d1 1 _ (HG.o.ext (HX3.o)) ae ae af af) fun w4 e4=>?_
 have HX4:=aj (HX3.o.trans e4);have HB0_4:=aj (HB0_3.o.ext e4);have HOL_4:=aj (HOL_3.o.ext e4);clear e4 c0_1;go_wp2_with (
  at_builtin;refine wpList_plain rfl fun K_ hK_=>bE (X:=w) (H:=fun _ => .string (qs (mkRat d1 1))) (ad:=⟨w4.heap.size,0,none⟩) (m:=1) (c:=1) (v:=.slice a3_ n3_ c3_) rfl rfl rfl dC dQ rfl (HX4.o.alloc _) (HOL_4.o.alloc _) (fun _=>af) (fun j hj=>by obtain rfl:j=0:=ae;exact cZ (ax.nw (#[.string (qs (mkRat d1 1))]) 34) rfl) (fun _ _=>rfl) (by unfold maxLen;omega) ae (fun a5_ n5_ c5_ w5 hA_=>hK_ _ _ ?_)
  have HX5:Hid (Ext w w5):=aj hA_.mv.ext;have HB0_5:Hid (ax w5 (w.heap.size) (#[.int .i8 a0,.int .i8 a1,.int .i8 a2]) 24):=aj (hA_.mv.aF (HB0_4.o.alloc _) (bh.aI HOL_4.o HB0_4.o af));have HOL_5:Hid (bh w w5 34 1 (.slice a5_ n5_ c5_) 2 (nC d0 d1 d2)):=aj (iQ hA_ rfl);clear hA_
 )
 rw[rounds_succ];have c0_2:=HB0_5.o.cell 2 rfl;go_wp2_with fail;refine cto (jq d2 1 _ (HG.o.ext (HX5.o)) ae ae af af) fun w6 e6=>?_
 have HX6:=aj (HX5.o.trans e6);have HOL_6:=aj (HOL_5.o.ext e6);clear e6 c0_2;go_wp2_with (
  at_builtin;refine wpList_plain rfl fun K_ hK_=>bE (X:=w) (H:=fun _ => .string (qs (mkRat d2 1))) (ad:=⟨w6.heap.size,0,none⟩) (m:=1) (c:=1) (v:=.slice a5_ n5_ c5_) rfl rfl rfl dC dQ rfl (HX6.o.alloc _) (HOL_6.o.alloc _) (fun _=>af) (fun j hj=>by obtain rfl:j=0:=ae;exact cZ (ax.nw (#[.string (qs (mkRat d2 1))]) 34) rfl) (fun _ _=>rfl) (by unfold maxLen;omega) ae (fun a7_ n7_ c7_ w7 hA_=>hK_ _ _ ?_)
  have HX7:Hid (Ext w w7):=aj hA_.mv.ext;have HOL_7:Hid (bh w w7 34 1 (.slice a7_ n7_ c7_) 3 (nC d0 d1 d2)):=aj (iQ hA_ rfl);clear hA_
 )
 rw[rounds_succ];go_wp2;go_ret;exact⟨_,rfl,HX7.o,HOL_7.o⟩
section
variable {P:LP} {q:Nat}
theorem lH(x:Nat->Rat):yq (fun j=>qs (x j))=x:=by funext j;exact Bl (x j)
theorem lp{x:Nat->Rat}{n:Nat}(h:∀ j,j<n->QB 200 (x j)):fU (fun j=>qs (x j)) n n=0:=by
 rw[fU,if_neg (fun h=>h rfl),if_neg];rw[Bool.not_eq_true,any_false];intro i hi;rw[gz (h i hi)];rfl
theorem pF{y:Nat->Rat}{m:Nat}(h:∀ i,i<m->QB 200 (y i))(hp:∀ i,i<m->0<=y i):jr (fun j=>qs (y j)) m m=0:=by
 rw[jr,if_neg (fun h'=>h' (lp h)),lH,if_neg];rw[Bool.not_eq_true,any_false];intro i hi;have:=hp i hi;exact decide_eq_false (by grind)
theorem uy{is:Nat->Bool}{n:Nat}(h:∀ i,i<n->is i=false):(rR is n).length=0:=by
 rw[List.length_eq_zero_iff,rR,List.filter_eq_nil_iff];intro i hi;rw[h i (List.mem_range.1 hi)];decide
theorem qj{x:Nat->Rat}(h:P.eP x):∀ i,i<P.m->EN P x i=false:=fun i hi=>decide_eq_false (by have:=h i hi;grind)
theorem xe {v:Rat} {x y:Nat->Rat} {t3:Nat->ByteArray} (h:eH P v x y) (hx:∀ j,j<P.n->QB q (x j)) (hy:∀ i,i<P.m->QB q (y i)) (hv:QB q v) (hq:q<=200) :
    BJ P 1 (qs v) (fun j=>qs (x j)) P.n (fun i=>qs (y i)) P.m t3 0=0:=by
 have he:Bx 1 (qs v) P.n P.m 0=0:=by
  rw[Bx,if_neg af,if_neg];rintro(h|h|h|h)
  ·exact h.1 rfl
  ·exact absurd h.1 af
  ·exact absurd h.1 af
  ·exact absurd h.2 af
 have hb:gF P (fun i=>qs (y i)) P.m=(qs v,0):=by
  rw[gF,if_neg (fun h'=>h' (pF (fun i hi=>(hy i hi).mono hq) h.pos)),lH,if_pos h.comb,h.ib];rw[show - -v=v by grind]
 rw[BJ,if_neg (fun h'=>h' he),if_neg af,if_neg (fun h'=>h' (lp fun j hj=>(hx j hj).mono hq)),lH,uy (qj h.eP),if_neg af,if_neg af,if_pos (gz (hv.mono hq)),hb,if_neg (fun h'=>h' rfl),if_neg];rintro(h'|h')
 ·exact h' rfl
 ·exact h' (by rw[h.worth])
theorem zT{y:Nat->Rat}{t1 t3:Nat->ByteArray}(h:cg P y)(hy:∀ i,i<P.m->QB q (y i))(hq:q<=200):BJ P 2 ⟨#[]⟩ t1 0 (fun i=>qs (y i)) P.m t3 0=0:=by
 have he:Bx 2 ⟨#[]⟩ 0 P.m 0=0:=by
  rw[Bx,if_neg af,if_neg];rintro(h|h|h|h)
  ·exact h.2 rfl
  ·exact absurd h.2 af
  ·exact absurd h.1 af
  ·exact absurd h.2 af
 rw[BJ,if_neg (fun h'=>h' he),if_pos rfl,zO,if_neg (fun h'=>h' (pF (fun i hi=>(hy i hi).mono hq) h.pos)),lH,if_pos ⟨h.neg,h.comb⟩]
theorem xd{x d:Nat->Rat}{t2:Nat->ByteArray}(h:dY P x d)(hx:∀ j,j<P.n->QB q (x j))(hd:∀ j,j<P.n->QB q (d j))(hq:q<=200):BJ P 3 ⟨#[]⟩ (fun j=>qs (x j)) P.n t2 0 (fun j=>qs (d j)) P.n=0:=by
 have he:Bx 3 ⟨#[]⟩ P.n 0 P.n=0:=by
  rw[Bx,if_neg af,if_neg];rintro(h|h|h|h)
  ·exact h.2 rfl
  ·exact absurd h.1 af
  ·exact absurd h.2 af
  ·exact h.1 rfl
 rw[BJ,if_neg (fun h'=>h' he),if_neg af,if_neg (fun h'=>h' (lp fun j hj=>(hx j hj).mono hq)),lH,uy (qj h.eP),if_neg af,if_pos rfl,j1,if_neg (fun h'=>h' (lp fun j hj=>(hd j hj).mono hq)),lH,if_pos ⟨h.worth,fun k hk=>h.row k hk⟩]
end
end Go.Proofs.YtmahadmefplbnaaGreatDoor
