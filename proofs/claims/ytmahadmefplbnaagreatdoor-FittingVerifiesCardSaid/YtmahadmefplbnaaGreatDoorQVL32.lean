/- Part 32. -/
import Derived.Test.YtmahadmefplbnaaGreatDoorQVLB
import Derived.Test.YtmahadmefplbnaaGreatDoorQVL31
import Derived.Lib.AppendZeros
set_option maxRecDepth 100000
set_option maxHeartbeats 2000000
open Go.Proofs.Tryz
set_option linter.unusedSimpArgs false
set_option linter.unusedVariables false
namespace Go.Proofs.YtmahadmefplbnaaGreatDoor
open Go Go.RowKit
def oW(is:Nat->Bool):Nat->Bool
 | 0=>false
 | k+1=>oW is k || is k
theorem any_false{is:Nat->Bool}:∀ {n:Nat},oW is n=false ↔ ∀ i,i<n->is i=false
 | 0=>⟨fun _ i hi=>ae,fun _=>rfl⟩
 | n+1=>by
  rw[oW,Bool.or_eq_false_iff,any_false];exact⟨fun⟨h1,h2⟩ i hi=>by
   by_cases e:i=n
   ·rw[e];exact h2
   ·exact h1 i ae,fun h=>⟨fun i hi=>h i ae,h n ae⟩⟩
theorem any_true{is:Nat->Bool}{n:Nat}:oW is n=true ↔ ∃ i,i<n/\is i=true:=by
 rw[← Bool.not_eq_false,any_false];exact⟨fun h=>Classical.not_not.1 (fun h'=>h (fun i hi=>by have:=fun e=>h' ⟨i,hi,e⟩;simpa using this)),fun⟨i,h1,h2⟩ h=>by rw[h i h1] at h2;cases h2⟩
theorem Ya{is:Nat->Bool}{n:Nat}:decide (0<=fi is n)=oW is n:=by
 rcases r6 is n with⟨h1,h2⟩|⟨k,h1,h2,h3,_⟩
 ·rw[any_false.2 h2,h1];decide
 ·rw[any_true.2 ⟨k,h1,h3⟩,h2];simp
def Lz(H:Nat->Value)(m:Nat):Prop:=∀ i,i<m->∃ s:ByteArray,H i = .string s/\rq s=true/\s.size<=1000000
def Il(X w:World)(v:Value)(n:Nat):Prop:=n<=10000/\∃ G,cD X w 34 1 v n G/\Lz G n
theorem rt1{s:ByteArray}(h:rq s=true)(hl:s.size<=1000000):Lz (fun _ => .string s) 1:=fun _ _=>⟨s,rfl,h,hl⟩
theorem Il.oq{X w:World}{v:Value}{n:Nat}(h:Il X w v n):∃ a k c,v = .slice a k c:=let ⟨_,_,o,_⟩:=h;o.oq
theorem Il.ext{X w w':World}{v:Value}{n:Nat}(h:Il X w v n)(e:Ext w w'):Il X w' v n:=let ⟨a,G,o,r⟩:=h;⟨a,G,o.ext e,r⟩
theorem Il.not{X w:World}{v:Value}{n k:Nat}{C:Array Value}{t:TypeId}(h:Il X w v n)(b:ay w k C t)(ht:34≠t):¬ jf v k:=let ⟨_,_,o,_⟩:=h;o.aU b ht
def ArP(w:World)(e:Ending)(w':World):Prop:=∃ v n,e = .returned v/\Ext w w'/\Il w w' v n/\n<=3000
theorem Il.mono{X w W:World}{v:Value}{n:Nat}(h:Il w W v n)(e:Ext X w):Il X W v n:=by
 obtain⟨a,G,o,r⟩:=h;refine⟨a,G,?_,r⟩;rcases o with o|⟨k,cap,C,h1,h2,h3⟩
 ·exact Or.inl o
 ·exact Or.inr ⟨k,cap,C,h1,Nat.le_trans e.size h2,h3⟩
section
variable {P:Program} {X w:World} {n m c:Nat} {v:Value} {ao:Option Addr} {H:Nat->Value}
theorem km {o:Oper} {a:Act} {Q:Exit->Act->World->Prop} {K:Act->World->Prop} {s x:Operand} (ho:o.op = .call { callee:=.builtin .append,args:=#[s,x],argTypes:=#[30,30] })
    (hs:a.eval s=v) (hx:a.eval x = .slice ao m c) (hX:Ext X w) (h:Il X w v n) (hr:Rd w (.slice ao m c) m H) (hH:Lz H m) (hl:n+m<=10000)
    (hK:∀ b k c w',Il X w' (.slice b k c) (n+m)->Mv X w (jf v) w'->K (a.put o.dst (.slice b k c)) w'):o.wp prog a w K Q:=by
 obtain⟨_,G,KU,hG⟩:=h;have one:∀ j,j<m->(H j).oneCell'=true:=fun j hj=>by obtain⟨s,e,_⟩:=hH j hj;rw[e];rfl
 have rt:Lz (app (n*1) G H) (n+m):=fun i hi=>by
  by_cases e:i<n
  ·rw[jF ae];exact hG i e
  ·rw[gM ae];have:=hH (i-n) ae;rwa[Nat.mul_one]
 have low:∀ k,jf v k->X.heap.size<=k:=fun k hk=>(KU.lt hk).1
 have qha:∀ (e:m=0) (hr:(Builtin.append_ #[30,30] o.type #[v,.slice ao m c]).run prog w = .ok v w),o.wp prog a w K Q:=fun e hr=>by
  obtain⟨b,k,c',rfl⟩:=KU.oq;unfold Oper.wp execOp;simp only[ho,resolve,invoke,builtin,Sem.run_bind,Sem.run_pure,Result.andThen_ok,List.map_toArray,List.map_cons,List.map_nil,hs,hx,hr];exact hK _ _ _ w ⟨hl,G,by rw[e,Nat.add_zero];exact KU,by rw[e,Nat.add_zero];exact hG⟩ (Mv.refl hX low)
 obtain⟨ao',c',e1,_,_,hc⟩:=hr;cases e1;by_cases hm:m=0
 ·refine qha hm ?_;subst hm;obtain⟨i,hi⟩:∃ i,prog.info? 34=some i:=by
   cases h:prog.info? 34 with
   | none=>have:=j7;rw[h] at this;cases this
   | some i=>exact⟨i,rfl⟩
  have ho2:=KU;rcases ho2 with⟨rfl,rfl⟩|⟨k,cap,C,rfl,_,hB,wK,_⟩
  ·cases ao <;> simp[Builtin.append_,run_underlying jI,sizeOf,typeInfo,hi,Builtin.lenOf,Builtin.firstCells,loadCells,loadCellsFrom]
  ·cases ao <;> simp[Builtin.append_,run_underlying jI,sizeOf,typeInfo,hi,Builtin.lenOf,Builtin.firstCells,loadCells,loadCellsFrom,wK,storeCells]
 ·obtain ⟨ad,rfl,_⟩:=hc 0 ae;exact gI (X:=X) (G:=G) (H:=H) ho hs hx jI j7 rfl hX KU (fun _=>ae) (fun j hj=>by obtain ⟨uM,e,h⟩:=hc j ae;rw [Option.some.inj e];exact h) (fun j hj=>one j ae) (by unfold maxLen;omega) ae
   (fun b k c w' hA=>hK b k c w' ⟨hl,_,hA.own,rt⟩ hA.mv)
end
theorem zV(t:ByteArray)(w:World)(g:Gd w)(hl:t.size<=1000000):Calls prog 61 #[.string t] w (aZ w (.bool (!rq t))):=by
 have HG:=ai g;clear g;go_enter func61,ntmps61;by_cases h:rq t=true
 ·go_wp2_with fail;refine cto (eQ t w HG.o hl h) fun w1 e1=>?_
  have aD:Hid (Ext w w1):=ai ((Ext.refl w).trans e1);clear e1;go_wp2;go_ret;exact⟨by rw[h];rfl,aD.o⟩
 ·rename _=>h0
  have h:rq t=false:=by simpa using h0
  go_wp2_with fail;refine cto (ju t w HG.o hl h) fun w1 e1=>?_
  have aD:Hid (Ext w w1):=ai ((Ext.refl w).trans e1);clear e1;go_wp2;go_ret;exact⟨by rw[h];rfl,aD.o⟩
theorem qbg(ao_:Option Addr)(n cap fn:Nat)(cp:Array Value)(a:Nat->Value)(is:Nat->Bool)(w:World)(hl:∀ i,i<n->∃ la,ao_=some la/\w.cell? (la.add i)=some (a i))(nU:∀ W,Ext w W->∀ k:Nat,k<n->Calls prog fn (#[a k] ++ cp) W (aZ W (.bool (is k))))(hn:n<=1000000)(hcf:∀ a_ W,(callFunc fn a_).run prog W = .ok (.enter fn a_) W):Calls prog 184 #[.slice ao_ n cap,.func (.func fn) #[] cp] w (aZ w (.int .i64 (fi is n))):=by
 have HL:=ai hl;have zJ:=ai nU;clear hl nU;go_enter func184,ntmps184;go_wp2_with fail;go_loopw [8] (fun bY wx=>∃ k:Nat,bY = .int .i64 k/\k<=n/\Hid (∀ i,i<k->is i=false)/\Hid (Ext w wx)) (fun bY _=>n-(intOf bY).toNat)
 case atStart=>exact⟨0,rfl,Nat.zero_le _,ai (fun i hi=>absurd hi (Nat.not_lt_zero i)),ai (Ext.refl w)⟩
 case round =>
  rename World=>w1
  obtain⟨k,rfl,mg,ui,HH⟩:=hrel;have aD:=ai HH.o;clear HH;by_cases aP:k<n
  ·have fj:(k:Int)<((n:Nat):Int):=ae;obtain⟨la,rfl,pW⟩:=HL.o k aP;have VE:=ai pW;clear pW;by_cases hi:is k=true
   ·have lI:=ai hi;clear hi;have Yy:=aC aD.o (VE.o);go_wp2_with fail;refine((lI.o▸zJ.o _ aD.o k aP)).mono ?_;rintro e w2 ⟨rfl,e2⟩;have aM:=ai (aD.o.trans e2);clear e2 Yy;go_wp2;go_ret;exact⟨by rw[GX aP ui.o lI.o];rfl,aM.o⟩
   ·have lI:Hid (is k=false):=ai (by simpa using hi);clear hi;have Yy:=aC aD.o (VE.o);go_wp2_with fail;refine((lI.o▸zJ.o _ aD.o k aP)).mono ?_;rintro e w2 ⟨rfl,e2⟩;have aM:=ai (aD.o.trans e2);clear e2 Yy;go_wp2_with fail;go_roundw
    case rel=>exact⟨k+1,by go_num,ae,ai (Ji ui.o lI.o),ai aM.o⟩
    case measure=>simp[intOf];omega
  ·have eY:k=n:=ae;have kx:¬ (k:Int)<((n:Nat):Int):=ae;go_wp2;go_ret;exact⟨by rw[uI (by rw[← eY];exact ui.o)];rfl,aD.o⟩
theorem Jt(ao_:Option Addr)(n cap fn:Nat)(cp:Array Value)(a:Nat->Value)(is:Nat->Bool)(w:World)(hl:∀ i,i<n->∃ la,ao_=some la/\w.cell? (la.add i)=some (a i))(nU:∀ W,Ext w W->∀ k:Nat,k<n->Calls prog fn (#[a k] ++ cp) W (aZ W (.bool (is k))))(hn:n<=1000000)(hcf:∀ a_ W,(callFunc fn a_).run prog W = .ok (.enter fn a_) W):Calls prog 112 #[.slice ao_ n cap,.func (.func fn) #[] cp] w (aZ w (.bool (oW is n))):=by
 have HL:=ai hl;have zJ:=ai nU;clear hl nU;go_enter func112,ntmps112;go_wp2_with fail;refine cto (qbg ao_ n cap fn cp a is w HL.o zJ.o hn hcf) fun w1 e1=>?_
 have aD:Hid (Ext w w1):=ai ((Ext.refl w).trans e1);clear e1;go_wp2;go_ret;exact⟨by rw[← Ya];rfl,aD.o⟩
theorem XZ(n:Nat)(w:World)(hn:n<=10000):Calls prog 207 #[.slice none 0 0,.int .i64 (n:Int)] w fun e w'=>∃ a k c,e = .returned (.slice a k c)/\Ext w w'/\Il w w' (.slice a k c) 0:=by
 have Wq:∀ G,Lz G 0:=fun G i hi=>absurd hi (Nat.not_lt_zero i)
 by_cases h0:n=0
 ·subst h0;go_enter func207,ntmps207;go_wp2;go_ret;exact⟨_,_,_,rfl,Ext.refl _,ae,fun _ => .int .i64 0,cD.nil _ _ _ _ _,Wq _⟩
 ·have hp:0<n:=ae;obtain⟨i,hi,hz,hs,hb⟩:∃ i,prog.info? 34=some i/\i.zero=some (.string ⟨#[]⟩)/\i.size=1/\i.bytes=16:=by
   cases h:prog.info? 34 with
   | none=>have:=j7;rw[h] at this;cases this
   | some i=>have:=j7;rw[h] at this;simp only[Option.map_some,Option.some.injEq,Prod.mk.injEq] at this;exact⟨i,rfl,this.1,this.2.1,this.2.2⟩
  obtain⟨cap,DJ⟩:∃ cap,grownCap w n 0 34=cap:=⟨_,rfl⟩
  have hr:=Lib.run_append_nil_zeros (P:=prog) w 30 3 30 34 i (.string ⟨#[]⟩) .i64 .i64 jI ag hi hz n hp ae ae (by rw[hb];omega);rw[DJ] at hr;have kx:n<=cap:=DJ▸grownCap_ge w n 0 34;have hcm:cap<=maxLen:=DJ▸grownCap_le_maxLen w n 0 34 (by unfold maxLen;omega);have hx:Ext w (w.drew.alloc (.cells (Builtin.zeroCells (Value.string ⟨#[]⟩).cells n ++ Builtin.zeroCells (Value.string ⟨#[]⟩).cells (cap-n)) 34)):=(Ext.refl w).drew.alloc _;have ho:cD w (w.drew.alloc (.cells (Builtin.zeroCells (Value.string ⟨#[]⟩).cells n ++ Builtin.zeroCells (Value.string ⟨#[]⟩).cells (cap-n)) 34)) 34 1 (.slice (some ⟨w.heap.size,0,none⟩) 0 cap) 0 (fun _ => .int .i64 0) :=
   Or.inr ⟨_,_,_,rfl,Nat.le_refl _,ay.new _ _ _,Nat.zero_le _,hcm,by simp only[Array.size_append,size_zeroCells];show n*1+(cap-n)*1=cap*1;omega,fun i hi=>ae⟩
  have HX:=ai hx;have HO:=ai ho;have c8:¬ (n:Int)<=0:=ae;have aP:¬ (n:Int)<0:=ae;clear hx ho DJ;go_enter func207,ntmps207;go_wp2_with (at_builtin;refine Lib.wpList_append_run _ rfl _ _ _ _ rfl _ _ rfl rfl _ _ hr ?_);clear hr;go_wp2;go_ret;exact⟨_,_,_,rfl,HX.o,ae,_,HO.o,Wq _⟩
theorem zC{w X:World}{v:Value}{n:Nat}(g:Gd w)(h:Il X w v n):Calls prog 112 #[v,.func (.func 61) #[] #[]] w (aZ w (.bool false)):=by
 obtain⟨hn,G,ho,hG⟩:=h;obtain⟨ao,cap,rfl,_,_,hc⟩:=ho.rd;have:=Jt ao n cap 61 #[] G (fun _=>false) w hc (fun W e k hk=>by
  obtain⟨s,e1,e2,e3⟩:=hG k hk;rw[e1];have h:=zV s W (g.ext e) e3;rw[e2] at h;exact h) ae (fun _ _=>ag)
 rwa[any_false.2 (fun _ _=>rfl)] at this
theorem Pe(kq:Nat)(w:World)(o1:Option Addr)(m1 c1:Nat)(H1:Nat->Value)(o2:Option Addr)(m2 c2:Nat)(H2:Nat->Value)(o3:Option Addr)(m3 c3:Nat)(H3:Nat->Value)(bq:ay w kq #[.slice o1 m1 c1,.slice o2 m2 c2,.slice o3 m3 c3] 30)(r1:Rd w (.slice o1 m1 c1) m1 H1)(t1:Lz H1 m1)(l1:m1<=1000)(r2:Rd w (.slice o2 m2 c2) m2 H2)(t2:Lz H2 m2)(l2:m2<=1000)(r3:Rd w (.slice o3 m3 c3) m3 H3)(t3:Lz H3 m3)(l3:m3<=1000):Calls prog 129 #[.slice (some ⟨kq,0,none⟩) 3 3] w (ArP w):=by
 have HBq:=ai bq;have kf:=ai r1;have jl:=ai r2;have uO:=ai r3;have EK:=ai t1;have HT2:=ai t2;have HT3:=ai t3;clear bq r1 r2 r3 t1 t2 t3;have z1:¬ (m1:Int)<0:=Int.not_lt.2 (Int.natCast_nonneg _);have z2:¬ (m1:Int)+(m2:Int)<0:=ae;have z3:¬ (m1:Int)+(m2:Int)+(m3:Int)<0:=ae;go_enter func129,ntmps129;go_wp2_with fail;refine wp_loop_rounds 4 ?_;rw[rounds_succ];have Yw:=HBq.o.cell (0) rfl;go_wp2_with fail;rw[rounds_succ];clear Yw;have Yv:=HBq.o.cell (1) rfl;go_wp2_with fail;rw[rounds_succ];clear Yv;have Yu:=HBq.o.cell (2) rfl;go_wp2_with fail;rw[rounds_succ];clear Yu;go_wp2_with fail;refine(XZ (m1+m2+m3) _ ae).mono ?_;rintro e w1 ⟨ga,gn,gc,rfl,e1,B3⟩;have aD:Hid (Ext w w1):=ai ((Ext.refl w).trans e1);have Ql:=ai (HBq.o.ext e1);clear e1;have QF:=ai B3;clear B3;go_wp2_with fail;refine wp_loop_rounds 4 ?_;rw[rounds_succ];have Yw:=Ql.o.cell (0) rfl;go_wp2_with (
  at_builtin;refine wpList_plain rfl fun K_ aL=>km (X:=w) (n:=0) (m:=m1) rfl rfl rfl aD.o QF.o (kf.o.ext aD.o) EK.o ae (fun gY E4 c2_ w2 B3 aK=>aL _ _ ?_)
  have aM:Hid (Ext w w2):=ai aK.ext;have Qk:=ai (aK.aH Ql.o (QF.o.not Ql.o af));have TT:=ai B3;clear B3 aK Yw
 )
 rw[rounds_succ];have Yv:=Qk.o.cell (1) rfl;go_wp2_with (
  at_builtin;refine wpList_plain rfl fun K_ aL=>km (X:=w) (n:=(0+m1)) (m:=m2) rfl rfl rfl aM.o TT.o (jl.o.ext aM.o) HT2.o ae (fun zD n3_ c3_ w3 B3 aK=>aL _ _ ?_)
  have bA:Hid (Ext w w3):=ai aK.ext;have qdT:=ai (aK.aH Qk.o (TT.o.not Qk.o af));have qiP:=ai B3;clear B3 aK Yv
 )
 rw[rounds_succ];have Yu:=qdT.o.cell (2) rfl;go_wp2_with (
  at_builtin;refine wpList_plain rfl fun K_ aL=>km (X:=w) (n:=((0+m1)+m2)) (m:=m3) rfl rfl rfl bA.o qiP.o (uO.o.ext bA.o) HT3.o ae (fun QU Gc c4_ w4 B3 aK=>aL _ _ ?_)
  have bO:Hid (Ext w w4):=ai aK.ext;have qiO:=ai B3;clear B3 aK Yu
 )
 rw[rounds_succ];go_wp2;go_ret;exact⟨_,_,rfl,bO.o,qiO.o,ae⟩
theorem Ah(kd:Int)(val:ByteArray)(w:World)(g:Gd w)(o1:Option Addr)(m1 c1:Nat)(H1:Nat->Value)(o2:Option Addr)(m2 c2:Nat)(H2:Nat->Value)(o3:Option Addr)(m3 c3:Nat)(H3:Nat->Value)(r1:Rd w (.slice o1 m1 c1) m1 H1)(t1:Lz H1 m1)(l1:m1<=1000)(r2:Rd w (.slice o2 m2 c2) m2 H2)(t2:Lz H2 m2)(l2:m2<=1000)(r3:Rd w (.slice o3 m3 c3) m3 H3)(t3:Lz H3 m3)(l3:m3<=1000)(hv:kd=1->rq val=true)(hvs:val.size<=1000000):Calls prog 49 #[.agg #[.int .i64 kd,.string val,.slice o1 m1 c1,.slice o2 m2 c2,.slice o3 m3 c3]] w (aZ w (.bool true)):=by
 have HG:=ai g;have kf:=ai r1;have jl:=ai r2;have uO:=ai r3;have EK:=ai t1;have HT2:=ai t2;have HT3:=ai t3;clear g r1 r2 r3 t1 t2 t3;go_enter func49,ntmps49;go_wp2_with fail;refine(Pe _ _ o1 m1 c1 H1 o2 m2 c2 H2 o3 m3 c3 H3 (ay.nw (#[.slice o1 m1 c1,.slice o2 m2 c2,.slice o3 m3 c3]) 30) (kf.o.ext (((Ext.refl w).alloc _).alloc _)) EK.o l1 (jl.o.ext (((Ext.refl w).alloc _).alloc _)) HT2.o l2 (uO.o.ext (((Ext.refl w).alloc _).alloc _)) HT3.o l3).mono ?_;rintro e w1 ⟨v_,gk,rfl,e1,B3,hgk⟩;have aD:Hid (Ext w w1):=ai ((((Ext.refl w).alloc _).alloc _).trans e1);have ax:Hid (ay w1 (w.heap.size) (#[.int .i64 kd,.string val,.slice o1 m1 c1,.slice o2 m2 c2,.slice o3 m3 c3]) 38):=ai ((((ay.nw (#[.int .i64 kd,.string val,.slice o1 m1 c1,.slice o2 m2 c2,.slice o3 m3 c3]) 38).alloc _)).ext e1);have aX:Hid (ay w1 (w.heap.size+1) (#[.slice o1 m1 c1,.slice o2 m2 c2,.slice o3 m3 c3]) 30):=ai (((ay.nw (#[.slice o1 m1 c1,.slice o2 m2 c2,.slice o3 m3 c3]) 30)).ext e1);have aF:Hid (w.heap.size<=w.heap.size):=ai (Nat.le_refl _);have aS:Hid (w.heap.size<=w.heap.size+1):=ai ae;clear e1;obtain⟨ga,gn,gc,rfl⟩:=B3.oq;have QF:=ai (B3.mono (((Ext.refl w).alloc _).alloc _));clear B3;go_upto_region 2 with fail
 by_cases h1:kd=1
 ·have HV:=ai (hv h1);clear hv;have aG:=ax.o.cell 0 rfl;have aI:=ax.o.cell 1 rfl;go_wp2_with (
   at_builtin;refine wpList_plain rfl fun K_ aL=>km (X:=w) (n:=gk) (m:=1) rfl rfl rfl (aD.o.alloc _) (QF.o.ext (by first|exact(Ext.refl _).alloc _|exact Ext.refl _)) (Rd.aH (ay.nw (#[.string val]) 34) (Nat.le_refl _) af (fun i hi=>by obtain rfl:i=0:=ae;rfl)) (rt1 HV.o hvs) ae (fun gY E4 c2_ w2 B3 aK=>aL _ _ ?_)
   have aM:Hid (Ext w w2):=ai aK.ext;have TT:=ai B3;clear B3 aK aG aI
  )
  refine cto (zC (HG.o.ext (aM.o)) TT.o) fun w3 e3=>?_
  have bA:=ai (aM.o.trans e3);clear e3;go_wp2;go_ret;exact⟨rfl,bA.o⟩
 ·have aG:=ax.o.cell 0 rfl;go_wp2_with fail;refine cto (zC (HG.o.ext (aD.o)) QF.o) fun w2 e2=>?_
  have aM:=ai (aD.o.trans e2);have az:=ai (ax.o.ext e2);clear e2 aG;go_wp2;go_ret;exact⟨rfl,aM.o⟩
noncomputable def k7 (t:Nat->ByteArray) (m k:Nat):Int:=if m≠k then 5 else if oW (fun i=>!rq (t i)) m=true then 2 else 0
theorem qcn{w:World}{v:Value}{m:Nat}{t:Nat->ByteArray}(g:Gd w)(h:Rs w v m t)(hl:∀ i,i<m->(t i).size<=1000000)(hm:m<=1000000):Calls prog 112 #[v,.func (.func 61) #[] #[]] w (aZ w (.bool (oW (fun i=>!rq (t i)) m))):=by
 obtain⟨ao,cap,rfl,_,_,hc⟩:=h;exact Jt ao m cap 61 #[] (fun i => .string (t i)) (fun i=>!rq (t i)) w hc (fun W e k hk=>zV (t k) W (g.ext e) (hl k hk)) hm (fun _ _=>ag)
theorem No(ao_:Option Addr)(ac m k:Nat)(t:Nat->ByteArray)(w:World)(g:Gd w)(hr:Rs w (.slice ao_ m ac) m t)(hl:∀ i,i<m->(t i).size<=1000000)(hm:m<=1000000):Calls prog 120 #[.slice ao_ m ac,.int .i64 (k:Int)] w (aZ w (.int .i64 (k7 t m k))):=by
 have HG:=ai g;have HR:=ai hr;have HL:=ai hl;clear g hr hl;go_enter func120,ntmps120;by_cases h1:m≠k
 ·have h2:decide ((m:Int)=(k:Int))=false:=decide_eq_false ae;go_wp2;go_ret;exact⟨by rw[k7,if_pos h1];rfl,(Ext.refl w)⟩
 ·obtain rfl:m=k:=Classical.not_not.1 h1;by_cases h3:oW (fun i=>!rq (t i)) m=true
  ·have HAN:=ai h3;go_wp2_with fail;refine((HAN.o▸qcn (HG.o.ext ((Ext.refl w))) (HR.o.ext (Ext.refl w)) HL.o hm)).mono ?_;rintro e w1 ⟨rfl,e1⟩;have aD:Hid (Ext w w1):=ai ((Ext.refl w).trans e1);clear e1;go_wp2;go_ret;exact⟨by rw[k7,if_neg h1,if_pos h3];rfl,aD.o⟩
  ·have h4:oW (fun i=>!rq (t i)) m=false:=by simpa using h3
   have HAN:=ai h4;go_wp2_with fail;refine((HAN.o▸qcn (HG.o.ext ((Ext.refl w))) (HR.o.ext (Ext.refl w)) HL.o hm)).mono ?_;rintro e w1 ⟨rfl,e1⟩;have aD:Hid (Ext w w1):=ai ((Ext.refl w).trans e1);clear e1;go_wp2;go_ret;exact⟨by rw[k7,if_neg h1,if_neg h3];rfl,aD.o⟩
theorem Ax{w:World}{v:Value}{m k:Nat}{t:Nat->ByteArray}(g:Gd w)(h:Rs w v m t)(hl:∀ i,i<m->(t i).size<=1000000)(hm:m<=1000000):Calls prog 120 #[v,.int .i64 (k:Int)] w (aZ w (.int .i64 (k7 t m k))):=by
 have h0:=h;obtain⟨ao,cap,rfl,_⟩:=h;exact No ao cap m k t w g h0 hl hm
theorem QB.sz{q:Nat}{x:Rat}(h:QB q x)(hq:q<=200):(qs x).size<=1000000:=h.len ae
theorem Df{w:World}{v:Value}{n:Nat}{a:Nat->Rat}(h:Rq w v n a)(g:Gd w)(hq:∀ i,i<n->QB 200 (a i))(hn:n<=60):Calls prog 120 #[v,.int .i64 (n:Int)] w (aZ w (.int .i64 0)):=by
 have:=Ax (k:=n) (t:=fun i=>qs (a i)) g h (fun i hi=>(hq i hi).sz (Nat.le_refl _)) ae;rwa[k7,if_neg (fun h=>h rfl),if_neg (by rw[Bool.not_eq_true,any_false];intro i hi;simp[gU (hq i hi)])] at this
theorem Cn(x:Rat)(w:World)(g:Gd w)(h:QB 200 x):Calls prog 61 #[.string (qs x)] w (aZ w (.bool false)):=by
 have:=zV (qs x) w g (h.sz (Nat.le_refl _));rwa[gU h] at this
structure PQ(P:LP):Prop where
 A:∀ i,i<P.m->∀ k,k<P.n->QB 200 (P.A i k)
 B:∀ i,i<P.m->QB 200 (P.B i)
 C:∀ k,k<P.n->QB 200 (P.C k)
theorem Ep(P:LP)(vr0 vc:Value)(va:Nat->Value)(w:World)(g:Gd w)(hP:PM P w vr0 vc va)(Q:PQ P)(hn:P.n<=60)(hm:P.m<=300):Calls prog 47 #[.agg #[.int .i64 (P.n:Int),vr0,vc]] w (aZ w (.int .i64 0)):=by
 have HG:=ai g;clear g;have Vs:=ai hP.obj;have uf:=ai hP.r8;have B9:=ai Q.A;have QW:=ai Q.B;have HQC:=ai Q.C;clear Q;obtain⟨ro,fT,rfl,_,_,qV⟩:=hP.rows;have JD:=ai qV;clear qV hP;have z1:¬ (P.n:Int)<0:=Int.not_lt.2 (Int.natCast_nonneg _);have z2:¬ (60:Int)<(P.n:Int):=ae;have z3:¬ (300:Int)<(P.m:Int):=ae;go_enter func47,ntmps47;go_wp2_with fail;refine cto (Df (Vs.o.ext ((Ext.refl w).alloc _)) (HG.o.ext (((Ext.refl w).alloc _))) HQC.o hn) fun w1 e1=>?_
 have aD:Hid (Ext w w1):=ai (((Ext.refl w).alloc _).trans e1);have ax:Hid (ay w1 (w.heap.size) (#[.int .i64 (P.n:Int),.slice ro P.m fT,vc]) 32):=ai (((ay.nw (#[.int .i64 (P.n:Int),.slice ro P.m fT,vc]) 32)).ext e1);have aF:Hid (w.heap.size<=w.heap.size):=ai (Nat.le_refl _);clear e1;have aI:=ax.o.cell 1 rfl;go_wp2_with fail;clear aI;go_loopw [32] (fun bY wx=>∃ k:Nat,bY = .int .i64 k/\k<=P.m/\Hid (Ext w wx/\ay wx (w.heap.size) (#[.int .i64 (P.n:Int),.slice ro P.m fT,vc]) 32)) (fun bY _=>P.m-(intOf bY).toNat)
 case atStart=>exact⟨0,rfl,Nat.zero_le _,ai ⟨aD.o,ax.o⟩⟩
 case round =>
  rename World=>w2
  obtain⟨k,rfl,mg,HH⟩:=hrel;have aM:=ai HH.o.1;have az:=ai HH.o.2;clear HH;by_cases aP:k<P.m
  ·have fj:(k:Int)<((P.m:Nat):Int):=ae;obtain⟨ra,o_,rfl,Ff,L5⟩:=JD.o k aP;obtain⟨fo,eh,qW,_⟩:=uf.o k aP;rw[qW] at Ff;have LL:=ai (qW▸uf.o k aP);have BO:=ai Ff;have Zv:=ai L5;clear Ff L5 qW;have eS:=aC aM.o (BO.o);have dj:=aC aM.o (Zv.o);go_upto_region 11 with fail
   refine aB (fun W=>Ext w W/\ay W (w.heap.size) (#[.int .i64 (P.n:Int),.slice (some ⟨ra,o_,none⟩) P.m fT,vc]) 32/\ay W (w2.heap.size) (#[.slice fo P.n eh,.string (qs (P.B k))]) 97) ⟨(aM.o.alloc _),(az.o.alloc _),(ay.nw (#[.slice fo P.n eh,.string (qs (P.B k))]) 97)⟩ ?_;rintro w3 ⟨e3,cB,iH⟩;have bA:=ai e3;have aA:=ai cB;have br:=ai iH;have aS:Hid (w.heap.size<=w2.heap.size):=ai (aM.o.size);clear e3 cB iH eS dj;have cH:=br.o.cell 0 rfl;have aG:=aA.o.cell 0 rfl;go_wp2_with fail;refine cto (Df (LL.o.ext bA.o) (HG.o.ext (bA.o)) (B9.o k aP) hn) fun w4 e4=>?_
   have bO:=ai (bA.o.trans e4);have aJ:=ai (aA.o.ext e4);have aW:=ai (br.o.ext e4);clear e4 cH aG;have gp:=aW.o.cell 1 rfl;go_wp2_with fail;refine cto (Cn (P.B k) _ (HG.o.ext (bO.o)) (QW.o k aP)) fun w5 e5=>?_
   have cX:=ai (bO.o.trans e5);have aT:=ai (aJ.o.ext e5);clear e5 gp;go_wp2_with fail;go_roundw
   case rel=>exact⟨k+1,by go_num,ae,ai ⟨cX.o,aT.o⟩⟩
   case measure=>simp[intOf];omega
  ·have eY:k=P.m:=ae;have kx:¬ (k:Int)<((P.m:Nat):Int):=ae;go_wp2;go_ret;exact⟨rfl,aM.o⟩
structure Fr(X W:World):Prop where
 out:Ext X W
theorem Fr.refl(X:World):Fr X X:=⟨Ext.refl X⟩
theorem Fr.ext{X W W':World}(h:Fr X W)(e:Ext W W'):Fr X W':=⟨h.out.trans e⟩
theorem Fr.alloc{X W:World}(h:Fr X W)(o:Obj):Fr X (W.alloc o):=⟨h.out.alloc o⟩
theorem Fr.drew{X W:World}(h:Fr X W):Fr X W.drew:=⟨h.out.drew⟩
theorem Fr.other{X W:World}(h:Fr X W){a:Addr}(u:Value)(hk:X.heap.size<=a.block):Fr X (W.setCell a u):=⟨h.out.setCell hk u⟩
section
variable {P:LP} {q:Nat} {X Y w w':World} {v:Value}
theorem eK.map(h:eK P q X w v)(f:∀ v n g,mw X w v n g->mw Y w' v n g):eK P q Y w' v:=by
 rcases h with⟨val,x,y,vp,vd,h1,h2,h3,h4,h5,h6,h7⟩|⟨y,vd,h1,h2,h3,h4⟩|⟨x,d,vp,vd,h1,h2,h3,h4,h5,h6⟩
 ·exact Or.inl ⟨val,x,y,vp,vd,h1,h2,h3,h4,h5,f _ _ _ h6,f _ _ _ h7⟩
 ·exact Or.inr (Or.inl ⟨y,vd,h1,h2,h3,f _ _ _ h4⟩)
 ·exact Or.inr (Or.inr ⟨x,d,vp,vd,h1,h2,h3,h4,f _ _ _ h5,f _ _ _ h6⟩)
theorem eK.ext(h:eK P q X w v)(e:Ext w w'):eK P q X w' v:=h.map fun _ _ _ r=>r.ext e
theorem eK.alloc(h:eK P q X w v)(o:Obj):eK P q X (w.alloc o) v:=h.ext ((Ext.refl _).alloc o)
theorem eK.drew(h:eK P q X w v):eK P q X w.drew v:=h.ext (Ext.refl _).drew
theorem DZ{b:Nat}(h:b<X.heap.size):∀ i,X.heap.size<=i->i≠b:=fun i hi e=>ae
theorem eK.other(h:eK P q X w v){a:Addr}(u:Value)(hk:∀ i,X.heap.size<=i->i≠a.block):eK P q X (w.setCell a u) v:=h.map fun _ _ _ ⟨k,C,e,l,b,c⟩=>⟨k,C,e,l,b.other u (hk k l),c⟩
theorem eK.mv{S:Nat->Prop}{Z:World}(h:eK P q X w v)(m:Mv Z w S w')(hs:∀ k,X.heap.size<=k->¬ S k):eK P q X w' v:=h.map fun _ _ _ ⟨k,C,e,l,b,c⟩=>⟨k,C,e,l,m.aH b (hs k l),c⟩
theorem ay.cast{W:World}{b:Nat}{cs cs':Array Value}{t:TypeId}(h:ay W b cs t)(e:cs=cs'):ay W b cs' t:=e▸h
theorem eK.mono(h:eK P q X w v)(e:Ext Y X):eK P q Y w v:=h.map fun _ _ _ r=>r.mono e
theorem mw.oq{n:Nat}{g:Nat->Value}(h:mw X w v n g):∃ a c,v = .slice a n c:=let ⟨_,_,e,_⟩:=h;⟨_,_,e⟩
theorem Rd.oq{n:Nat}{g:Nat->Value}(h:Rd w v n g):∃ a c,v = .slice a n c:=let ⟨a,c,e,_⟩:=h;⟨a,c,e⟩
theorem eK.shape(h:eK P q X w v):∃ kd vl a m c d n f g h k,v = .agg #[.int .i64 kd,.string vl,.slice a m c,.slice d n f,.slice g h k]:=by
 rcases h with⟨val,x,y,vp,vd,rfl,h2,h3,h4,h5,h6,h7⟩|⟨y,vd,rfl,h2,h3,h4⟩|⟨x,d,vp,vd,rfl,h2,h3,h4,h5,h6⟩
 ·obtain⟨a,c,rfl⟩:=h6.oq;obtain⟨a',c',rfl⟩:=h7.oq;exact⟨_,_,_,_,_,_,_,_,_,_,_,rfl⟩
 ·obtain⟨a,c,rfl⟩:=h4.oq;exact⟨_,_,_,_,_,_,_,_,_,_,_,rfl⟩
 ·obtain⟨a,c,rfl⟩:=h5.oq;obtain⟨a',c',rfl⟩:=h6.oq;exact⟨_,_,_,_,_,_,_,_,_,_,_,rfl⟩
theorem eK.kind {kd:Int} {vl:ByteArray} {u1 u2 u3:Value} (h:eK P q X w (.agg #[.int .i64 kd,.string vl,u1,u2,u3])) :
    (kd=1/\∃ val x y,vl=qs val/\j2 P val x y/\QB q val/\((∀ j,j<P.n->QB q (x j))/\Nq X w u1 P.n x)/\((∀ i,i<P.m->QB q (y i))/\Nq X w u2 P.m y)/\u3 = .slice none 0 0) ∨
    (kd=2/\vl=⟨#[]⟩/\∃ y,gS P y/\((∀ i,i<P.m->QB q (y i))/\Nq X w u2 P.m y)/\u1 = .slice none 0 0/\u3 = .slice none 0 0) ∨
    (kd=3/\vl=⟨#[]⟩/\∃ x d,iL P x d/\((∀ j,j<P.n->QB q (x j))/\Nq X w u1 P.n x)/\((∀ j,j<P.n->QB q (d j))/\Nq X w u3 P.n d)/\u2 = .slice none 0 0):=by
 rcases h with⟨val,x,y,vp,vd,e,h2,h3,h4,h5,h6,h7⟩|⟨y,vd,e,h2,h3,h4⟩|⟨x,d,vp,vd,e,h2,h3,h4,h5,h6⟩ <;> simp only[Value.agg.injEq,Array.mk.injEq,List.cons.injEq,Value.int.injEq,Value.string.injEq,true_and,and_true] at e <;> obtain⟨rfl,rfl,rfl,rfl,rfl⟩:=e
 ·exact Or.inl ⟨rfl,val,x,y,rfl,h2,h3,⟨h4,h6⟩,⟨h5,h7⟩,rfl⟩
 ·exact Or.inr (Or.inl ⟨rfl,rfl,y,h2,⟨h3,h4⟩,rfl,rfl⟩)
 ·exact Or.inr (Or.inr ⟨rfl,rfl,x,d,h2,⟨h3,h5⟩,⟨h4,h6⟩,rfl⟩)
theorem eK.qcM{vl:ByteArray}{u1 u2 u3:Value}(h:eK P q X w (.agg #[.int .i64 1,.string vl,u1,u2,u3])):∃ val x y,vl=qs val/\j2 P val x y/\QB q val/\((∀ j,j<P.n->QB q (x j))/\Nq X w u1 P.n x)/\((∀ i,i<P.m->QB q (y i))/\Nq X w u2 P.m y)/\u3 = .slice none 0 0:=by
 rcases h.kind with h|h|h
 ·exact h.2
 ·exact absurd h.1 af
 ·exact absurd h.1 af
theorem eK.qhc{vl:ByteArray}{u1 u2 u3:Value}(h:eK P q X w (.agg #[.int .i64 3,.string vl,u1,u2,u3])):vl=⟨#[]⟩/\∃ x d,iL P x d/\((∀ j,j<P.n->QB q (x j))/\Nq X w u1 P.n x)/\((∀ j,j<P.n->QB q (d j))/\Nq X w u3 P.n d)/\u2 = .slice none 0 0:=by
 rcases h.kind with h|h|h
 ·exact absurd h.1 af
 ·exact absurd h.1 af
 ·exact h.2
theorem rtq{n:Nat}{x:Nat->Rat}(h:∀ j,j<n->QB q (x j))(hq:q<=200):Lz (fun j => .string (qs (x j))) n:=fun j hj=>⟨_,rfl,gU ((h j hj).mono hq),(h j hj).sz hq⟩
theorem Wq{g:Nat->Value}:Lz g 0:=fun i hi=>absurd hi (Nat.not_lt_zero i)
theorem Kj(g:Gd w)(h:eK P q X w v)(kn:q<=200)(hn:P.n<=1000)(hm:P.m<=1000):Calls prog 49 #[v] w (aZ w (.bool true)):=by
 have nl:∀ g,Rd w (.slice none 0 0) 0 g:=fun g=>Rd.nil w g
 rcases h with⟨val,x,y,vp,vd,rfl,h2,h3,h4,h5,h6,h7⟩|⟨y,vd,rfl,h2,h3,h4⟩|⟨x,d,vp,vd,rfl,h2,h3,h4,h5,h6⟩
 ·obtain⟨a,c,rfl⟩:=h6.oq;obtain⟨a',c',rfl⟩:=h7.oq;exact Ah 1 (qs val) w g _ _ _ _ _ _ _ _ _ _ _ _ (h6.rd (qI hn)) (rtq h4 kn) hn (h7.rd (qI hm)) (rtq h5 kn) hm (nl fun _ => .int .i64 0) Wq (Nat.zero_le _) (fun _=>gU (h3.mono kn)) (h3.sz kn)
 ·obtain⟨a,c,rfl⟩:=h4.oq;exact Ah 2 ⟨#[]⟩ w g _ _ _ _ _ _ _ _ _ _ _ _ (nl fun _ => .int .i64 0) Wq (Nat.zero_le _) (h4.rd (qI hm)) (rtq h3 kn) hm (nl fun _ => .int .i64 0) Wq (Nat.zero_le _) (fun h=>absurd h af) af
 ·obtain⟨a,c,rfl⟩:=h5.oq;obtain⟨a',c',rfl⟩:=h6.oq;exact Ah 3 ⟨#[]⟩ w g _ _ _ _ _ _ _ _ _ _ _ _ (h5.rd (qI hn)) (rtq h3 kn) hn (nl fun _ => .int .i64 0) Wq (Nat.zero_le _) (h6.rd (qI hn)) (rtq h4 kn) hn (fun h=>absurd h af) af
end
def Vp(P:LP)(q:Nat)(w:World)(e:Ending)(w':World):Prop:=∃ v,e = .returned (.tuple #[v,.int .i64 0])/\Ext w w'/\eK P q w w' v
theorem WR(P:LP)(vr vc:Value)(va:Nat->Value)(q:Nat)(w:World)(g:Gd w)(hP:PM P w vr vc va)(SZ:Vm P q)(Q:PQ P)(hn:P.n<=60)(hm:P.m<=300)(jo:1<=q)(kn:q<=200)(qa:∀ i,i<P.m->∀ j,j<P.n->QB q (P.A i j)):Calls prog 15 #[.agg #[.int .i64 (P.n:Int),vr,vc]] w (Vp P q w):=by
 have HG:=ai g;have nW:=ai hP;have B9:=ai qa;have QV:=ai Q;clear g hP qa Q;obtain⟨ro,fT,OX,_⟩:=nW.o.rows;obtain⟨co,nP,O0,_⟩:=nW.o.obj;subst OX O0;go_enter func15,ntmps15;go_wp2_with fail;refine cto (Ep P _ _ va _ (HG.o.ext ((((Ext.refl w).alloc _).alloc _))) (nW.o.ext (((Ext.refl w).alloc _).alloc _)) QV.o hn hm) fun w1 e1=>?_
 have aD:Hid (Ext w w1):=ai ((((Ext.refl w).alloc _).alloc _).trans e1);have ax:Hid (ay w1 (w.heap.size) (#[.int .i64 (P.n:Int),.slice ro P.m fT,.slice co P.n nP]) 32):=ai ((((ay.nw (#[.int .i64 (P.n:Int),.slice ro P.m fT,.slice co P.n nP]) 32).alloc _)).ext e1);have aX:Hid (ay w1 (w.heap.size+1) (#[.int .i64 0,.string ⟨#[]⟩,.slice none 0 0,.slice none 0 0,.slice none 0 0]) 38):=ai (((ay.nw (#[.int .i64 0,.string ⟨#[]⟩,.slice none 0 0,.slice none 0 0,.slice none 0 0]) 38)).ext e1);have aF:Hid (w.heap.size<=w.heap.size):=ai (Nat.le_refl _);have aS:Hid (w.heap.size<=w.heap.size+1):=ai ae;clear e1;have aG:=ax.o.cell 0 rfl;have aI:=ax.o.cell 1 rfl;have aQ:=ax.o.cell 2 rfl;go_wp2_with fail;refine(Rv P _ _ va q _ (HG.o.ext (aD.o)) (nW.o.ext aD.o) SZ (by have:=hn;show P.n<=1000;omega) (by have:=hm;show P.m<=1000;omega) jo ae B9.o).mono ?_;rintro e w2 ⟨v_,rfl,e2,Z5⟩;have aM:=ai (aD.o.trans e2);have c7:=ai (aX.o.ext e2);clear e2 aG aI aQ;obtain⟨Xj,V5,gC,W7,YL,Yp,AI,Yh,QT,Fb,SA,rfl⟩:=Z5.shape;have Y8:=ai Z5;clear Z5;go_upto_region 5 with fail
 refine aB (fun W=>Ext w W/\ay W (w.heap.size+1) (#[.int .i64 0,.string ⟨#[]⟩,.slice none 0 0,.slice none 0 0,.slice none 0 0]) 38/\eK P q w1 W (.agg #[.int .i64 Xj,.string V5,.slice gC W7 YL,.slice Yp AI Yh,.slice QT Fb SA])/\ay W (w2.heap.size) (#[.int .i64 Xj,.string V5,.slice gC W7 YL,.slice Yp AI Yh,.slice QT Fb SA]) 38) ⟨(aM.o.alloc _),(c7.o.alloc _),(Y8.o.alloc _),(ay.nw (#[.int .i64 Xj,.string V5,.slice gC W7 YL,.slice Yp AI Yh,.slice QT Fb SA]) 38)⟩ ?_;rintro w3 ⟨e3,iH,Po,lF⟩;have bA:=ai e3;have br:=ai iH;have PJ:=ai Po;have gE:=ai lF;have fF:Hid (w.heap.size<=w2.heap.size):=ai (aM.o.size);clear e3 iH Po lF;have lU:=gE.o.cell 0 rfl;have lT:=gE.o.cell 1 rfl;have nA:=gE.o.cell 2 rfl;have YK:=gE.o.cell 3 rfl;have YJ:=gE.o.cell 4 rfl;go_wp2_with fail;refine cto (Kj (HG.o.ext (bA.o)) (PJ.o) kn (by show P.n<=1000;omega) (by show P.m<=1000;omega)) fun w4 e4=>?_
 have bO:=ai (bA.o.trans e4);have aW:=ai (br.o.ext e4);have Y7:=ai (PJ.o.ext e4);have sA:=ai (gE.o.ext e4);clear e4 lU lT nA YK YJ;have lU:=sA.o.cell 0 rfl;have lT:=sA.o.cell 1 rfl;have nA:=sA.o.cell 2 rfl;have YK:=sA.o.cell 3 rfl;have YJ:=sA.o.cell 4 rfl;have cH:=aW.o.cell 0 rfl;have ji:=aW.o.free 0;have gp:=aW.o.cell 1 rfl;have oC:=aW.o.free 1;have gK:=aW.o.cell 2 rfl;have nO:=aW.o.free 2;have Er:=aW.o.cell 3 rfl;have Ee:=aW.o.free 3;have pU:=aW.o.cell 4 rfl;have ym:=aW.o.free 4;go_wp2_with fail;refine aB (fun W=>Ext w W/\ay W (w.heap.size+1) (#[.int .i64 Xj,.string V5,.slice gC W7 YL,.slice Yp AI Yh,.slice QT Fb SA]) 38/\eK P q w1 W (.agg #[.int .i64 Xj,.string V5,.slice gC W7 YL,.slice Yp AI Yh,.slice QT Fb SA])) ⟨(((((bO.o.setCell (aS.o) _).setCell (aS.o) _).setCell (aS.o) _).setCell (aS.o) _).setCell (aS.o) _),(((((aW.o.set 0 (.int .i64 Xj)).set 1 (.string V5)).set 2 (.slice gC W7 YL)).set 3 (.slice Yp AI Yh)).set 4 (.slice QT Fb SA)),(((((Y7.o.other (a:=⟨w.heap.size+1,0,none⟩) _ ((DZ aX.o.lt))).other (a:=⟨w.heap.size+1,1,none⟩) _ ((DZ aX.o.lt))).other (a:=⟨w.heap.size+1,2,none⟩) _ ((DZ aX.o.lt))).other (a:=⟨w.heap.size+1,3,none⟩) _ ((DZ aX.o.lt))).other (a:=⟨w.heap.size+1,4,none⟩) _ ((DZ aX.o.lt)))⟩ ?_;rintro w5 ⟨e5,fP,Pn⟩;have cX:=ai e5;have bI:=ai fP;have Y6:=ai Pn;clear e5 fP Pn lU lT nA YK YJ cH ji gp oC gK nO Er Ee pU ym;have eg:=bI.o.cell 0 rfl;have fB:=bI.o.cell 1 rfl;have fA:=bI.o.cell 2 rfl;have rX:=bI.o.cell 3 rfl;have rW:=bI.o.cell 4 rfl;refine bodyPost_ret (v:=.tuple #[.agg #[.int .i64 Xj,.string V5,.slice gC W7 YL,.slice Yp AI Yh,.slice QT Fb SA],.int .i64 0]) (by simp[results,results15,go_sem,eg,fB,fA,rX,rW]) rfl ⟨_,rfl,cX.o,Y6.o.mono aD.o⟩
def qcX(P:LP)(v:Rat):Prop:=∃ x y,j2 P v x y
def QJ(P:LP):Prop:=∃ x d,iL P x d
section
variable {P:LP} {q:Nat} {X w:World} {vl:ByteArray} {u1 u2 u3:Value}
theorem eK.Jn(h:eK P q X w (.agg #[.int .i64 3,.string vl,u1,u2,u3])):QJ P:=by
 obtain⟨_,x,d,hd,_⟩:=h.qhc;exact⟨x,d,hd⟩
end
abbrev LP.unit(P:LP)(k:Nat)(s:Rat):LP:={ P with C:=fun j=>if j=k then s else 0 }
def Vn(P:LP)(k q:Nat)(w:World)(e:Ending)(w':World):Prop:=Ext w w' /\
 ((e = .returned (.tuple #[.string ⟨#[]⟩,.string ⟨#[]⟩,.int .i64 22])/\∃ y,gS P y) ∨
  ∃ lo hi,e = .returned (.tuple #[.string lo,.string hi,.int .i64 0]) /\
   ((∃ z,qcX (P.unit k 1) z/\QB q z/\lo=qs z)∨(QJ (P.unit k 1)/\lo=⟨#[]⟩)) /\
   ((∃ z,qcX (P.unit k (-1)) z/\QB q z/\hi=qs (-z))∨(QJ (P.unit k (-1))/\hi=⟨#[]⟩)))
def td(is:Nat->Bool)(k:Nat):List Nat:=(List.range k).filter is
theorem pB{is:Nat->Bool}{k:Nat}(h:is k=true):td is (k+1)=td is k ++ [k]:=by simp[td,List.range_succ,h]
theorem A8{is:Nat->Bool}{k:Nat}(h:is k=false):td is (k+1)=td is k:=by simp[td,List.range_succ,h]
theorem A9{is:Nat->Bool}{k:Nat}:(td is k).length<=k:=by have:=List.length_filter_le is (List.range k);rw[List.length_range] at this;exact this
def Ba(is:Nat->Bool)(k:Nat)(j:Nat):Value:=.int .i64 (((td is k)[j]?.getD 0:Nat):Int)
abbrev FL(X w:World)(is:Nat->Bool)(k:Nat)(v:Value):Prop:=cD X w 3 1 v (td is k).length (Ba is k)
section
variable {X w w':World} {is:Nat->Bool} {k:Nat} {v:Value}
theorem FL.nil(X w:World)(is:Nat->Bool):FL X w is 0 (.slice none 0 0):=cD.nil _ _ _ _ _
theorem FL.skip(h:FL X w is k v)(hk:is k=false):FL X w is (k+1) v:=by
 have e:Ba is (k+1)=Ba is k:=by funext j;rw[Ba,Ba,A8 hk]
 rw[FL,A8 hk,e];exact h
theorem FL.push{v':Value}(h:App X w 3 1 v (td is k).length 1 (Ba is k) (fun _ => .int .i64 (k:Int)) v' w')(hk:is k=true):FL X w' is (k+1) v':=by
 have e:(td is (k+1)).length=(td is k).length+1:=by rw[pB hk];simp
 rw[FL,e];refine h.own.congr fun i hi=>?_
 rw[Nat.mul_one] at hi;by_cases h1:i<(td is k).length
 ·rw[jF ae,Ba,Ba,pB hk,List.getElem?_append_left h1]
 ·have:i=(td is k).length:=ae;rw[gM ae,Ba,pB hk,this];simp
theorem cD.alloc{t:TypeId}{sz n:Nat}{G:Nat->Value}(h:cD X w t sz v n G)(o:Obj):cD X (w.alloc o) t sz v n G:=h.ext ((Ext.refl _).alloc o)
theorem cD.drew{t:TypeId}{sz n:Nat}{G:Nat->Value}(h:cD X w t sz v n G):cD X w.drew t sz v n G:=h.ext (Ext.refl _).drew
theorem cD.ne{t:TypeId}{sz n:Nat}{G:Nat->Value}(h:cD X w t sz v n G){b:Nat}(hb:w.heap.size<=b):∀ k,jf v k->k≠b:=fun k hk e=>by have:=(h.lt hk).2;omega
theorem cD.xC{t t':TypeId}{sz n b:Nat}{G:Nat->Value}{C:Array Value}(h:cD X w t sz v n G)(hB:ay w b C t')(ht:t≠t'):∀ k,jf v k->k≠b:=fun k hk e=>h.aU hB ht (e▸hk)
theorem qca{n:Nat}(h:n<=1000):(td is n).length+1<=maxLen:=by have:=@A9 is n;unfold maxLen;omega
theorem X7{n:Nat}(h:n<=1000):((td is n).length+1)*8<=140737488355328:=by have:=@A9 is n;omega
end
def vio(P:LP)(x:Nat->Rat)(k:Nat):Bool:=decide (P.B k<bD P.n (fun j=>P.A k j*x j))
theorem Mx(x:Rat):decide (x.num<0)=decide (x<0):=decide_eq_decide.2 ⟨fun h=>(Rat.lt_iff x 0).2 (by simpa using h),fun h=>by have:=(Rat.lt_iff x 0).1 h;simpa using this⟩
theorem We(x:Rat)(w:World):Calls prog 213 #[.string (qs x)] w (aZ w (.bool (decide (x<0)))):=by
 go_enter func213,ntmps213;go_wp2_with fail;refine(cr x _).mono ?_;rintro e _ ⟨rfl,rfl⟩;go_wp2;go_ret;exact⟨by rw[← Mx];rfl,(Ext.refl w)⟩
theorem AG{w:World}{v:Value}{m:Nat}{y:Nat->Rat}(h:Rq w v m y)(hm:m<=1000000):Calls prog 112 #[v,.func (.func 213) #[] #[]] w (aZ w (.bool (oW (fun i=>decide (y i<0)) m))):=by
 obtain⟨ao,cap,rfl,_,_,hc⟩:=h;exact Jt ao m cap 213 #[] (fun i => .string (qs (y i))) (fun i=>decide (y i<0)) w hc (fun W _ k _=>We (y k) W) hm (fun _ _=>ag)
def tE(P:LP)(y:Nat->Rat)(k j:Nat):Rat:=bD k (fun i=>y i*P.A i j)
theorem CH{P:LP}{y:Nat->Rat}{j:Nat}:tE P y 0 j=0:=rfl
theorem Ai{P:LP}{y:Nat->Rat}{j:Nat}:tE P y P.m j=P.comb y j:=rfl
theorem Iw {P:LP} {y:Nat->Rat} {k j n:Nat} {C:Array Value} (h:∀ i,i<n->C[i]?=some (.string (qs (if i<j then tE P y (k+1) i else tE P y k i)))) :
    ∀ i,i<n->(C.setIfInBounds j (.string (qs (tE P y k j+y k*P.A k j))))[i]?=some (.string (qs (if i<j+1 then tE P y (k+1) i else tE P y k i))) :=
 kP h (fun _=>by rw[if_pos ae];rfl) (fun i _ c8=>by
  by_cases h1:i<j
  ·rw[if_pos h1,if_pos ae]
  ·rw[if_neg h1,if_neg ae])
theorem Aw{w:World}{v:Value}{n:Nat}{a:Nat->Rat}(h:Rq w v n a)(g:Gd w)(hq:∀ i,i<n->QB 200 (a i))(hn:n<=1000000):Calls prog 120 #[v,.int .i64 (n:Int)] w (aZ w (.int .i64 0)):=by
 have:=Ax (k:=n) (t:=fun i=>qs (a i)) g h (fun i hi=>(hq i hi).sz (Nat.le_refl _)) hn;rwa[k7,if_neg (fun h=>h rfl),if_neg (by rw[Bool.not_eq_true,any_false];intro i hi;simp[gU (hq i hi)])] at this
def qcU(P:LP)(y:Nat->Rat)(w:World)(e:Ending)(w':World):Prop:=∃ vf,e = .returned (.tuple #[vf,.string (qs (P.yu y)),.int .i64 0])/\Ext w w'/\Nq w w' vf P.n (P.comb y)
theorem qei(P:LP)(vr vc:Value)(va:Nat->Value)(q:Nat)(w:World)(g:Gd w)(hP:PM P w vr vc va)(vy:Value)(y:Nat->Rat)(r:Nat)(hy:Rq w vy P.m y)(hr:∀ i,i<P.m->QB r (y i))(KS:r<=200)(gh:P.m*(r+q+1)<=198)(qb:∀ i,i<P.m->QB q (P.B i))(hnn:oW (fun i=>decide (y i<0)) P.m=false)(Q:PQ P)(hn:P.n<=60)(hm:P.m<=300)(jo:1<=q)(kn:q<=200)(qa:∀ i,i<P.m->∀ j,j<P.n->QB q (P.A i j)):Calls prog 140 #[.agg #[.int .i64 (P.n:Int),vr,vc],.agg #[vy]] w (qcU P y w):=by
 have nW:=ai hP;have Zf:=ai hnn;have Vq:=ai hy;have Bz:=ai hr;have QW:=ai qb;have HG:=ai g;have B9:=ai qa;have QV:=ai Q;clear hP hnn hy hr qb g qa Q;have AU:P.m<=1000000:=ae;have ue:Hid (∀ k,k<=P.m->QB 199 (bD k (fun i=>y i*P.B i))):=ai (fun k hk=>(Fz Bz.o QW.o k hk).mono (O6 hk gh));have pJ:Hid (∀ k,k<=P.m->∀ j,j<P.n->QB 199 (tE P y k j)):=ai (fun k hk j hj=>(Fz Bz.o (fun i hi=>B9.o i hi j hj) k hk).mono (O6 hk gh));have Vs:=ai nW.o.obj;have uf:=ai nW.o.r8;obtain⟨co,nP,O0,_⟩:=nW.o.obj;obtain⟨ro,fT,OX,_,_,qV⟩:=nW.o.rows;subst OX O0;have JD:=ai qV;clear qV;have Hs:=ai Vq.o;obtain⟨yo,nY,Td,_,_,LQ⟩:=Vq.o;subst Td;have HYY:=ai LQ;clear LQ;go_enter func140,ntmps140;go_wp2_with fail;refine cto (Aw (Hs.o.ext (((Ext.refl w).alloc _).alloc _)) (HG.o.ext ((((Ext.refl w).alloc _).alloc _))) (fun j hj=>(Bz.o j hj).mono KS) AU) fun w1 e1=>?_
 have aD:Hid (Ext w w1):=ai ((((Ext.refl w).alloc _).alloc _).trans e1);have ax:Hid (ay w1 (w.heap.size) (#[.int .i64 (P.n:Int),.slice ro P.m fT,.slice co P.n nP]) 32):=ai ((((ay.nw (#[.int .i64 (P.n:Int),.slice ro P.m fT,.slice co P.n nP]) 32).alloc _)).ext e1);have aX:Hid (ay w1 (w.heap.size+1) (#[.slice yo P.m nY]) 36):=ai (((ay.nw (#[.slice yo P.m nY]) 36)).ext e1);have aF:Hid (w.heap.size<=w.heap.size):=ai (Nat.le_refl _);have aS:Hid (w.heap.size<=w.heap.size+1):=ai ae;clear e1;have cH:=aX.o.cell 0 rfl;go_wp2_with fail;refine((Zf.o▸AG (Hs.o.ext aD.o) AU)).mono ?_;rintro e w2 ⟨rfl,e2⟩;have aM:=ai (aD.o.trans e2);have az:=ai (ax.o.ext e2);have c7:=ai (aX.o.ext e2);clear e2 cH;have aG:=az.o.cell 0 rfl;go_wp2_with fail;refine(mI P.n ae _).mono ?_;rintro e w3 ⟨ir,Z2,rfl,e3,g_,b_,c_⟩;have pL:Hid (w.heap.size≠ir):=ai (Nat.ne_of_lt (Nat.lt_of_lt_of_le az.o.lt g_));have dL:Hid (w.heap.size+1≠ir):=ai (Nat.ne_of_lt (Nat.lt_of_lt_of_le c7.o.lt g_));have kS:Hid (w.heap.size<=ir):=ai (Nat.le_trans aM.o.size g_);have bA:=ai (aM.o.trans e3);have aA:=ai (az.o.ext e3);have br:=ai (c7.o.ext e3);clear e3 aG;have Hx:=ai b_;have sw:=ai c_;clear g_ b_ c_;have cH:=br.o.cell 0 rfl;go_wp2_with fail;clear cH;go_loopw [30,5] (fun bY qU wx=>∃ k:Nat,bY = .int .i64 k/\qU = .string (qs (bD k (fun i=>y i*P.B i)))/\k<=P.m/\Hid (Ext w wx/\ay wx (w.heap.size) (#[.int .i64 (P.n:Int),.slice ro P.m fT,.slice co P.n nP]) 32/\ay wx (w.heap.size+1) (#[.slice yo P.m nY]) 36/\(∃ CK,ay wx ir CK 34/\∀ j,j<P.n->CK[j]?=some (.string (qs (tE P y k j)))))) (fun bY _ _=>P.m-(intOf bY).toNat)
 case atStart=>exact⟨0,rfl,by simp only[bD];rw[df],Nat.zero_le _,ai ⟨bA.o,aA.o,br.o,⟨_,Hx.o,fun j hj=>by rw[CH,df];exact sw.o j hj⟩⟩⟩
 case round =>
  rename World=>w4
  obtain⟨k,rfl,rfl,mg,HH⟩:=hrel;have bO:=ai HH.o.1;have aJ:=ai HH.o.2.1;have aW:=ai HH.o.2.2.1;obtain⟨CK,gC,gY⟩:=HH.o.2.2.2;have xO:=ai gC;have jb:=ai gY;clear gC gY;clear HH;by_cases aP:k<P.m
  ·have fj:(k:Int)<((P.m:Nat):Int):=ae;have pR:k<P.m:=aP;obtain⟨ra,o_,rfl,Ff,L5⟩:=JD.o k aP;obtain⟨fo,eh,qW,_,_,Oo⟩:=uf.o k aP;rw[qW] at Ff;have HFF:=ai Oo;obtain⟨ya,rfl,mG⟩:=HYY.o k aP;have BO:=ai Ff;have Zv:=ai L5;have uR:=ai mG;clear Ff L5 qW Oo mG;have Yq:=aC bO.o (uR.o);have aI:=aJ.o.cell 1 rfl;have dj:=aC bO.o (Zv.o);go_wp2_with fail;refine cto (de (y k) (P.B k) _ (HG.o.ext (bO.o)) (Bz.o k pR) (QW.o k aP) ae ae) fun w5 e5=>?_
   have cX:=ai (bO.o.trans e5);have aT:=ai (aJ.o.ext e5);have bI:=ai (aW.o.ext e5);have xN:=ai (xO.o.ext e5);clear e5 Yq aI dj;go_wp2_with fail;refine cto (fU (bD k (fun i=>y i*P.B i)) (y k*P.B k) _ (HG.o.ext (cX.o)) (ue.o k ae) ((Bz.o k pR).mul (QW.o k aP)) ae ae) fun w6 e6=>?_
   have gd:=ai (cX.o.trans e6);have bC:=ai (aT.o.ext e6);have cx:=ai (bI.o.ext e6);have kV:=ai (xN.o.ext e6);clear e6;have aI:=bC.o.cell 1 rfl;have eS:=aC gd.o (BO.o);go_wp2_with fail;clear aI eS;go_loopw [52] (fun bY wx=>∃ j:Nat,bY = .int .i64 j/\j<=P.n/\Hid (Ext w wx/\ay wx (w.heap.size) (#[.int .i64 (P.n:Int),.slice (some ⟨ra,o_,none⟩) P.m fT,.slice co P.n nP]) 32/\ay wx (w.heap.size+1) (#[.slice (some ya) P.m nY]) 36/\(∃ CJ,ay wx ir CJ 34/\∀ i,i<P.n->CJ[i]?=some (.string (qs (if i<j then tE P y (k+1) i else tE P y k i)))))) (fun bY _=>P.n-(intOf bY).toNat)
   case atStart=>exact⟨0,rfl,Nat.zero_le _,ai ⟨gd.o,bC.o,cx.o,⟨_,kV.o,fun i hi=>by rw[if_neg (Nat.not_lt_zero i)];exact jb.o i hi⟩⟩⟩
   case round =>
    rename World=>w7
    obtain⟨j,rfl,Oj,HH⟩:=hrel;have ig:=ai HH.o.1;have cg:=ai HH.o.2.1;have bj:=ai HH.o.2.2.1;obtain⟨CJ,gC,gY⟩:=HH.o.2.2.2;have nE:=ai gC;have Zw:=ai gY;clear gC gY;clear HH;by_cases aP:j<P.n
    ·have fj:(j:Int)<((P.n:Nat):Int):=ae;obtain⟨fa,rfl,tu⟩:=HFF.o j aP;have BS:=ai tu;have V1:=Zw.o j aP;rw[if_neg ae] at V1;have HCj:=ai V1;clear tu V1;have Pf:=aC ig.o (BS.o);go_wp2_with fail;clear Pf;refine aE [.val (.slice (some ⟨ir,0,none⟩) P.n P.n),.val (.int .i64 (j:Int)),.val (.slice (some ⟨ir,0,none⟩) P.n P.n),.val (.int .i64 (j:Int)),.val (.pointer (some ⟨ir,j,none⟩)),.val (.string (qs (tE P y k j))),.val (.string (qs (y k))),.val (.string (qs (P.A k j))),.val (.string (qs (y k*P.A k j))),.val (.string (qs (tE P y k j+y k*P.A k j))),.val (.pointer (some ⟨ir,j,none⟩)),.ch] (fun L g W=>(if L 11=true then ay W (ir) ((CJ).setIfInBounds j (.string (qs (tE P y k j+y k*P.A k j)))) 34 else ay W (ir) (CJ) 34)) (S:=fun k=>k=ir) ag ag ag (Mv.refl ig.o (fun k h=>(fun e=>Nat.le_trans (show w.heap.size<=ir from kS.o) (Nat.le_of_eq e.symm)) h)) ?_ ?_ ?_ ?_ (fun fI w8 aK bW=>?_)
     ·exact fun B5=>(by rw[if_neg af];exact nE.o.drew)
     ·exact fun L g W W1 h e=>cA (h) (fun h=>h.ext e) (fun h=>h.ext e)
     ·intro i v L g W hi h;have jz:i≠11:=gJ hi rfl;simp only[bB jz,bE jz];exact h
     ·skip
      refine RI 4 (.slice (some ⟨ir,0,none⟩) P.n P.n)<|RI 10 (.int .i64 (j:Int))<|RI 4 (.slice (some ⟨ir,0,none⟩) P.n P.n)<|RI 10 (.int .i64 (j:Int))<|R2 2 3 ?_;refine RV (fun A_ aw K_ aL=>?_) ?_;· have RU:=aw.val 4;have jz:=aw.no 11 af ag;have G3:=aw.e;rw[if_neg (by rw[jz];decide)] at G3;have qcm:=G3.cell (j) HCj.o;clear G3 jz;go_simp;exact du aL
      refine RI 9 (.string (qs (y k)))<|RI 11 (.string (qs (P.A k j)))<|K2 (fun aw=>aw.val 6) (fun aw=>aw.val 7) (fun aw=>de (y k) (P.A k j) _ (HG.o.ext aw.mv.ext) (Bz.o k pR) (B9.o k pR j aP) ae ae)<|K2 (fun aw=>aw.val 5) (fun aw=>aw.val 8) (fun aw=>fU (tE P y k j) (y k*P.A k j) _ (HG.o.ext aw.mv.ext) (pJ.o k ae j aP) ((Bz.o k pR).mul (B9.o k pR j aP)) ae ae)<|R2 0 1 ?_;refine aN.cons (fun L_ g_ A_ W_ aw=>?_) ?_
      ·have qaQ:=aw.val 10;have qfR:=aw.val 9;refine fl.ch fun K_ aL=>?_;have n_:=aw.not;have e_:=aw.e;rw[if_neg (by rw[n_];decide)] at e_;have B7:=e_.cell (j) HCj.o;have B6:=e_.free j;have a8:=ai e_;have bU:=ai aw.mv;have nS:=ai aw.e;clear e_ n_;go_simp;exact aL.o undef _ (bU.o.setCell (Or.inl (rfl)) _) (by rw[bS,if_pos rfl];exact(a8.o.set j _))
      exact aN.nil
     simp only[gm,Ke.value,b7,Act.put,aq,au,av];have jQ:Hid (Ext w w8):=ai aK.ext;have fR:=ai (aK.aH cg.o (fun h=>((show w.heap.size≠ir from pL.o)) h));have cE:=ai (aK.aH bj.o (fun h=>((show w.heap.size+1≠ir from dL.o)) h));have qQ:Hid (ay w8 (ir) ((CJ).setIfInBounds j (.string (qs (tE P y k j+y k*P.A k j)))) 34):=ai (by have h_:=bW;rw[if_pos rfl] at h_;exact h_);clear aK bW;go_wp2_with fail;go_roundw
     case rel=>exact⟨j+1,by go_num,ae,ai ⟨jQ.o,fR.o,cE.o,⟨_,qQ.o,Iw Zw.o⟩⟩⟩
     case measure=>simp[intOf];omega
    ·have eY:j=P.n:=ae;have kx:¬ (j:Int)<((P.n:Nat):Int):=ae;go_wp2_with fail;go_roundw
     case rel=>exact⟨k+1,by go_num,rfl,ae,ai ⟨ig.o,cg.o,bj.o,⟨_,nE.o,fun i hi=>by rw[Zw.o i hi,if_pos ae]⟩⟩⟩
     case measure=>simp[intOf];omega
  ·have eY:k=P.m:=ae;have kx:¬ (k:Int)<((P.m:Nat):Int):=ae;go_wp2;go_ret3;exact⟨_,rfl,bO.o,_,_,rfl,kS.o,xO.o,fun j hj=>by rw[jb.o j hj,eY,Ai]⟩
theorem Ru(P:LP)(vr vc:Value)(va:Nat->Value)(q:Nat)(w:World)(g:Gd w)(hP:PM P w vr vc va)(vy:Value)(m:Nat)(t:Nat->ByteArray)(hT:Rs w vy m t)(DE:∀ i,i<m->(t i).size<=1000000)(AU:m<=1000000)(hle:k7 t m P.m≠0)(Q:PQ P)(hn:P.n<=60)(hm:P.m<=300)(jo:1<=q)(kn:q<=200)(qa:∀ i,i<P.m->∀ j,j<P.n->QB q (P.A i j)):Calls prog 140 #[.agg #[.int .i64 (P.n:Int),vr,vc],.agg #[vy]] w (aZ w (.tuple #[.slice none 0 0,.string ⟨#[]⟩,.int .i64 (k7 t m P.m)])):=by
 have nW:=ai hP;have HT:=ai hT;have Y4:=ai DE;have HG:=ai g;have B9:=ai qa;have QV:=ai Q;clear hP hT DE g qa Q;have Vs:=ai nW.o.obj;have uf:=ai nW.o.r8;obtain⟨co,nP,O0,_⟩:=nW.o.obj;obtain⟨ro,fT,OX,_,_,qV⟩:=nW.o.rows;subst OX O0;have JD:=ai qV;clear qV;obtain⟨yo,nY,Td,_,_,LQ⟩:=HT.o;subst Td;clear LQ;go_enter func140,ntmps140;have jh:¬ k7 t m P.m=0:=hle;go_wp2_with fail;refine cto (Ax (HG.o.ext ((((Ext.refl w).alloc _).alloc _))) (HT.o.ext (((Ext.refl w).alloc _).alloc _)) Y4.o AU) fun w1 e1=>?_
 have aD:Hid (Ext w w1):=ai ((((Ext.refl w).alloc _).alloc _).trans e1);clear e1;go_wp2;go_ret3;exact⟨rfl,aD.o⟩
theorem Rt(P:LP)(vr vc:Value)(va:Nat->Value)(q:Nat)(w:World)(g:Gd w)(hP:PM P w vr vc va)(vy:Value)(y:Nat->Rat)(r:Nat)(hy:Rq w vy P.m y)(hr:∀ i,i<P.m->QB r (y i))(KS:r<=200)(hnn:oW (fun i=>decide (y i<0)) P.m=true)(Q:PQ P)(hn:P.n<=60)(hm:P.m<=300)(jo:1<=q)(kn:q<=200)(qa:∀ i,i<P.m->∀ j,j<P.n->QB q (P.A i j)):Calls prog 140 #[.agg #[.int .i64 (P.n:Int),vr,vc],.agg #[vy]] w (aZ w (.tuple #[.slice none 0 0,.string ⟨#[]⟩,.int .i64 3])):=by
 have nW:=ai hP;have Zf:=ai hnn;have Vq:=ai hy;have Bz:=ai hr;have HG:=ai g;have B9:=ai qa;have QV:=ai Q;clear hP hnn hy hr g qa Q;have AU:P.m<=1000000:=ae;have Vs:=ai nW.o.obj;have uf:=ai nW.o.r8;obtain⟨co,nP,O0,_⟩:=nW.o.obj;obtain⟨ro,fT,OX,_,_,qV⟩:=nW.o.rows;subst OX O0;have JD:=ai qV;clear qV;have Hs:=ai Vq.o;obtain⟨yo,nY,Td,_,_,LQ⟩:=Vq.o;subst Td;have HYY:=ai LQ;clear LQ;go_enter func140,ntmps140;go_wp2_with fail;refine cto (Aw (Hs.o.ext (((Ext.refl w).alloc _).alloc _)) (HG.o.ext ((((Ext.refl w).alloc _).alloc _))) (fun j hj=>(Bz.o j hj).mono KS) AU) fun w1 e1=>?_
 have aD:Hid (Ext w w1):=ai ((((Ext.refl w).alloc _).alloc _).trans e1);have aX:Hid (ay w1 (w.heap.size+1) (#[.slice yo P.m nY]) 36):=ai (((ay.nw (#[.slice yo P.m nY]) 36)).ext e1);have aS:Hid (w.heap.size<=w.heap.size+1):=ai ae;clear e1;have cH:=aX.o.cell 0 rfl;go_wp2_with fail;refine((Zf.o▸AG (Hs.o.ext aD.o) AU)).mono ?_;rintro e w2 ⟨rfl,e2⟩;have aM:=ai (aD.o.trans e2);clear e2 cH;go_wp2;go_ret3;exact⟨rfl,aM.o⟩
noncomputable def qv (t:ByteArray):Rat:=open Classical in if h:∃ x,t=qs x then h.choose else 0
theorem yP(x:Rat):qv (qs x)=x:=by
 have h:∃ z,qs x=qs z:=⟨x,rfl⟩
 rw[qv,dif_pos h];exact(FZ.1 h.choose_spec).symm
noncomputable abbrev yq (t:Nat->ByteArray) (i:Nat):Rat:=qv (t i)
noncomputable def qy (t:Nat->ByteArray) (m k:Nat):Int:=if k7 t m k≠0 then k7 t m k else if oW (fun i=>decide (yq t i<0)) m=true then 3 else 0
def LY(t:Nat->ByteArray)(m r:Nat):Prop:=∀ i,i<m->rq (t i)=true->∃ x,t i=qs x/\QB r x
theorem Sr{t:Nat->ByteArray}{m k r:Nat}(h:k7 t m k=0)(hq:LY t m r):m=k/\∀ i,i<m->t i=qs (yq t i)/\QB r (yq t i):=by
 rw[k7] at h;split at h
 ·cases h
 ·rename_i h1;split at h
  ·cases h
  ·rename_i h2;refine⟨Classical.not_not.1 h1,fun i hi=>?_⟩;rw[Bool.not_eq_true,any_false] at h2;obtain⟨x,hx,hb⟩:=hq i hi (by have:=h2 i hi;simpa using this);rw[yq,hx,yP];exact⟨rfl,hb⟩
def qcT(P:LP)(t:Nat->ByteArray)(m:Nat)(w:World)(e:Ending)(w':World):Prop:=Ext w w' /\
 ((e = .returned (.tuple #[.slice none 0 0,.string ⟨#[]⟩,.int .i64 (qy t m P.m)])/\qy t m P.m≠0) ∨
  (∃ vf,e = .returned (.tuple #[vf,.string (qs (P.yu (yq t))),.int .i64 0])/\qy t m P.m=0/\(∀ i,i<P.m->QB 200 (yq t i))/\Nq w w' vf P.n (P.comb (yq t))))
noncomputable def rfc (P:LP) (t:Nat->ByteArray) (m:Nat):Int:=open Classical in if qy t m P.m≠0 then qy t m P.m else if P.yu (yq t)<0/\(∀ j,j<P.n->P.comb (yq t) j=0) then 0 else 23
theorem Wk(x:Rat):(x.num.sign=-1/\x<0)∨(x.num.sign=0/\¬ x<0)∨(x.num.sign=1/\¬ x<0):=by
 by_cases h:x<0
 ·exact Or.inl ⟨mT h,h⟩
 ·by_cases h0:x=0
  ·exact Or.inr (Or.inl ⟨by rw[h0];rfl,h⟩)
  ·exact Or.inr (Or.inr ⟨mS (by grind),h⟩)
noncomputable def ld (P:LP) (t:Nat->ByteArray) (m:Nat):ByteArray × Int:=open Classical in if qy t m P.m≠0 then(⟨#[]⟩,qy t m P.m) else if (∀ j,j<P.n->P.comb (yq t) j=-P.C j) then(qs (-P.yu (yq t)),0) else(⟨#[]⟩,23)
theorem S5{P:LP}{y:Nat->Rat}{k:Nat}(hz:P.comb y k+P.C k=0)(h:∀ j,j<k->P.comb y j=-P.C j):∀ j,j<k+1->P.comb y j=-P.C j:=fun j hj=>by
 by_cases e:j=k
 ·rw[e];grind
 ·exact h j ae
def UB(kd:Int)(val:ByteArray)(np nd nr:Nat):Int:=if kd<1∨3<kd then 12 else if (kd≠1/\val≠⟨#[]⟩)∨(kd=2/\0<np)∨(kd=3/\0<nd)∨(kd≠3/\0<nr) then 7 else 0
noncomputable def r8 (P:LP) (t:Nat->ByteArray) (m:Nat):Int:=open Classical in if k7 t m P.n≠0 then k7 t m P.n else if P.obj (yq t)<0/\(∀ k,k<P.m->(bD P.n (fun j=>P.A k j*yq t j))<=0) then 0 else 23
noncomputable def V6 (P:LP) (kd:Int) (val:ByteArray) (t1:Nat->ByteArray) (m1:Nat) (t2:Nat->ByteArray) (m2:Nat) (t3:Nat->ByteArray) (m3:Nat):Int :=
 if UB kd val m1 m2 m3≠0 then UB kd val m1 m2 m3 else if kd=2 then rfc P t2 m2 else if k7 t1 m1 P.n≠0 then k7 t1 m1 P.n else if 0<(td (vio P (yq t1)) P.m).length then 23 else if kd=3 then r8 P t3 m3
 else if rq val=true then(if (ld P t2 m2).2≠0 then(ld P t2 m2).2 else if (ld P t2 m2).1≠val∨qs (P.obj (yq t1))≠val then 23 else 0) else 2
theorem iN{a b:ByteArray}(h:¬ a=b):(a.toList == b.toList)=false:=by
 rw[toList_data,toList_data];rcases a with⟨⟨m⟩⟩;rcases b with⟨⟨n⟩⟩;simpa using fun e=>h (by rw[e])
theorem gW{a b:ByteArray}(h:a=b):(a.toList == b.toList)=true:=by rw[h];exact beq_self_eq_true _
theorem cD.yd{X w:World}{t:TypeId}{sz n:Nat}{v:Value}{G:Nat->Value}(h:cD X w t sz v n G):∃ a c,v = .slice a n c:=by
 rcases h with⟨rfl,rfl⟩|⟨k,cap,C,rfl,_⟩
 ·exact⟨_,_,rfl⟩
 ·exact⟨_,_,rfl⟩
def ms(y:Nat->Rat)(k:Nat):Int:=if oW (fun i=>decide (y i<0)) k=true then 3 else 0
def l3(a b c:Int)(j:Nat):Rat:=if j=0 then mkRat a 1 else if j=1 then mkRat b 1 else mkRat c 1
theorem IJ{X w w':World}{e:TypeId}{n:Nat}{v v':Value}{G:Nat->Value}{u:Value}(h:App X w e 1 v n 1 G (fun _=>u) v' w')(hu:u=G n):cD X w' e 1 v' (n+1) G :=
 h.own.congr fun i hi=>by
  by_cases h1:i<n*1
  ·rw[jF h1]
  ·rw[gM h1,hu,show i=n by omega]
theorem cD.empty{X w:World}{t:TypeId}{k:Nat}{G:Nat->Value}(hk:X.heap.size<=k)(h:ay w k #[] t):cD X w t 1 (.slice (some ⟨k,0,none⟩) 0 0) 0 G :=
 Or.inr ⟨k,0,#[],rfl,hk,h,Nat.le_refl _,by unfold maxLen;omega,rfl,fun i hi=>absurd hi ae⟩
section
variable {P:LP} {q:Nat}
theorem yE(x:Nat->Rat):yq (fun j=>qs (x j))=x:=by funext j;exact yP (x j)
theorem uD{x:Nat->Rat}{n:Nat}(h:∀ j,j<n->QB 200 (x j)):k7 (fun j=>qs (x j)) n n=0:=by
 rw[k7,if_neg (fun h=>h rfl),if_neg];rw[Bool.not_eq_true,any_false];intro i hi;rw[gU (h i hi)];rfl
theorem IQ{y:Nat->Rat}{m:Nat}(h:∀ i,i<m->QB 200 (y i))(hp:∀ i,i<m->0<=y i):qy (fun j=>qs (y j)) m m=0:=by
 rw[qy,if_neg (fun h'=>h' (uD h)),yE,if_neg];rw[Bool.not_eq_true,any_false];intro i hi;have:=hp i hi;exact decide_eq_false (by grind)
theorem Jf{is:Nat->Bool}{n:Nat}(h:∀ i,i<n->is i=false):(td is n).length=0:=by
 rw[List.length_eq_zero_iff,td,List.filter_eq_nil_iff];intro i hi;rw[h i (List.mem_range.1 hi)];decide
theorem Cp{x:Nat->Rat}(h:P.mh x):∀ i,i<P.m->vio P x i=false:=fun i hi=>decide_eq_false (by have:=h i hi;grind)
theorem Me {v:Rat} {x y:Nat->Rat} {t3:Nat->ByteArray} (h:j2 P v x y) (hx:∀ j,j<P.n->QB q (x j)) (hy:∀ i,i<P.m->QB q (y i)) (hv:QB q v) (hq:q<=200) :
    V6 P 1 (qs v) (fun j=>qs (x j)) P.n (fun i=>qs (y i)) P.m t3 0=0:=by
 have he:UB 1 (qs v) P.n P.m 0=0:=by
  rw[UB,if_neg af,if_neg];rintro(h|h|h|h)
  ·exact h.1 rfl
  ·exact absurd h.1 af
  ·exact absurd h.1 af
  ·exact absurd h.2 af
 have hb:ld P (fun i=>qs (y i)) P.m=(qs v,0):=by
  rw[ld,if_neg (fun h'=>h' (IQ (fun i hi=>(hy i hi).mono hq) h.pos)),yE,if_pos h.comb,h.yu];rw[show - -v=v by grind]
 rw[V6,if_neg (fun h'=>h' he),if_neg af,if_neg (fun h'=>h' (uD fun j hj=>(hx j hj).mono hq)),yE,Jf (Cp h.mh),if_neg af,if_neg af,if_pos (gU (hv.mono hq)),hb,if_neg (fun h'=>h' rfl),if_neg];rintro(h'|h')
 ·exact h' rfl
 ·exact h' (by rw[h.worth])
theorem Rc{y:Nat->Rat}{t1 t3:Nat->ByteArray}(h:gS P y)(hy:∀ i,i<P.m->QB q (y i))(hq:q<=200):V6 P 2 ⟨#[]⟩ t1 0 (fun i=>qs (y i)) P.m t3 0=0:=by
 have he:UB 2 ⟨#[]⟩ 0 P.m 0=0:=by
  rw[UB,if_neg af,if_neg];rintro(h|h|h|h)
  ·exact h.2 rfl
  ·exact absurd h.2 af
  ·exact absurd h.1 af
  ·exact absurd h.2 af
 rw[V6,if_neg (fun h'=>h' he),if_pos rfl,rfc,if_neg (fun h'=>h' (IQ (fun i hi=>(hy i hi).mono hq) h.pos)),yE,if_pos ⟨h.neg,h.comb⟩]
theorem Md{x d:Nat->Rat}{t2:Nat->ByteArray}(h:iL P x d)(hx:∀ j,j<P.n->QB q (x j))(hd:∀ j,j<P.n->QB q (d j))(hq:q<=200):V6 P 3 ⟨#[]⟩ (fun j=>qs (x j)) P.n t2 0 (fun j=>qs (d j)) P.n=0:=by
 have he:UB 3 ⟨#[]⟩ P.n 0 P.n=0:=by
  rw[UB,if_neg af,if_neg];rintro(h|h|h|h)
  ·exact h.2 rfl
  ·exact absurd h.1 af
  ·exact absurd h.2 af
  ·exact h.1 rfl
 rw[V6,if_neg (fun h'=>h' he),if_neg af,if_neg (fun h'=>h' (uD fun j hj=>(hx j hj).mono hq)),yE,Jf (Cp h.mh),if_neg af,if_pos rfl,r8,if_neg (fun h'=>h' (uD fun j hj=>(hd j hj).mono hq)),yE,if_pos ⟨h.worth,fun k hk=>h.row k hk⟩]
end
structure MR(w:World)(n k:Nat)(vr vo:Value)(RG C vf:Nat->Value)(F:Nat->Nat->Value)(W:World):Prop where
 rows:cD w W 97 2 vr k RG
 obj:cD w W 34 1 vo n C
 r8:∀ i,i<k->cD w W 34 1 (vf i) n (F i)
def MD(k:Nat)(vr vo:Value)(vf:Nat->Value)(q:Nat):Prop:=jf vr q∨jf vo q∨∃ i,i<k/\jf (vf i) q
section
variable {w W W':World} {n k:Nat} {vr vo:Value} {RG C vf:Nat->Value} {F:Nat->Nat->Value}
theorem MR.ext(h:MR w n k vr vo RG C vf F W)(e:Ext W W'):MR w n k vr vo RG C vf F W':=⟨h.rows.ext e,h.obj.ext e,fun i hi=>(h.r8 i hi).ext e⟩
theorem MR.alloc(h:MR w n k vr vo RG C vf F W)(o:Obj):MR w n k vr vo RG C vf F (W.alloc o):=h.ext ((Ext.refl _).alloc o)
theorem MR.drew(h:MR w n k vr vo RG C vf F W):MR w n k vr vo RG C vf F W.drew:=h.ext (Ext.refl _).drew
theorem MR.mv{Y:World}{S:Nat->Prop}(h:MR w n k vr vo RG C vf F W)(m:Mv Y W S W')(hs:∀ q,MD k vr vo vf q->¬ S q):MR w n k vr vo RG C vf F W' :=
 ⟨h.rows.mv m (fun q a=>hs q (Or.inl a)),h.obj.mv m (fun q a=>hs q (Or.inr (Or.inl a))),fun i hi=>(h.r8 i hi).mv m (fun q a=>hs q (Or.inr (Or.inr ⟨i,hi,a⟩)))⟩
theorem MR.other(h:MR w n k vr vo RG C vf F W){a:Addr}(u:Value)(hk:∀ q,MD k vr vo vf q->q≠a.block):MR w n k vr vo RG C vf F (W.setCell a u) :=
 ⟨h.rows.other u (fun v=>hk _ (Or.inl v) rfl),h.obj.other u (fun v=>hk _ (Or.inr (Or.inl v)) rfl),fun i hi=>(h.r8 i hi).other u (fun v=>hk _ (Or.inr (Or.inr ⟨i,hi,v⟩)) rfl)⟩
theorem MR.lt(h:MR w n k vr vo RG C vf F W):∀ q,MD k vr vo vf q->w.heap.size<=q/\q<W.heap.size:=fun q d=>d.elim (fun a=>h.rows.lt a) (fun d=>d.elim (fun a=>h.obj.lt a) (fun⟨i,hi,a⟩=>(h.r8 i hi).lt a))
theorem MR.ne(h:MR w n k vr vo RG C vf F W){b:Nat}(hb:W.heap.size<=b):∀ q,MD k vr vo vf q->q≠b:=fun q d e=>by have:=(h.lt q d).2;omega
theorem MR.Vi(h:MR w n k vr vo RG C vf F W){b:Nat}{D:Array Value}{t:TypeId}(hB:ay W b D t)(h2:97≠t)(h3:34≠t):∀ q,MD k vr vo vf q->q≠b:=fun q d e=>by
 subst e;rcases d with d|d|⟨i,hi,d⟩
 ·exact h.rows.aU hB h2 d
 ·exact h.obj.aU hB h3 d
 ·exact(h.r8 i hi).aU hB h3 d
theorem MR.push {x y vr' : Value} {vg : Nat -> Value} (h : MR w n k vr vo RG C vf F W) (hA : App w W 97 2 vr k 1 RG (fun i => if i = 0 then x else y) vr' W') (hx : cD w W 34 1 x n (F k)) (hg : vg k = x) (hg2 : ∀ i, i < k -> vg i = vf i) :
    MR w n (k+1) vr' vo (app (k*2) RG (fun i=>if i=0 then x else y)) C vg F W':=by
 refine⟨hA.own,h.obj.mv hA.mv (fun q hq hv=>(h.rows.apart h.obj af) q hv hq),fun i hi=>?_⟩;by_cases e:i=k
 ·rw[e,hg];exact hx.mv hA.mv (fun q hq hv=>(h.rows.apart hx af) q hv hq)
 ·rw[hg2 i ae];exact(h.r8 i ae).mv hA.mv (fun q hq hv=>(h.rows.apart (h.r8 i ae) af) q hv hq)
end
theorem Ir:prog.underlying 29=some (.slice 97):=ag
theorem N3:(prog.info? 97).map (fun i=>(i.zero,i.size,i.bytes))=some (some (.agg #[.slice none 0 0,.string ⟨#[]⟩]),2,40):=ag
theorem MR.pm{w W:World}{vr vo:Value}{RG vf:Nat->Value}{P:LP}(h:MR w P.n P.m vr vo RG (fun j => .string (qs (P.C j))) vf (fun i j => .string (qs (P.A i j))) W)(hg:∀ i,i<P.m->RG (i*2)=vf i/\RG (i*2+1) = .string (qs (P.B i))):PM P W vr vo vf:=by
 refine⟨?_,fun i hi=>(h.r8 i hi).rd,h.obj.rd⟩;rcases h.rows with⟨e1,e2⟩|⟨b,cap,D,e1,e2,e3,e4,e5,e6,e7⟩
 ·exact⟨none,0,by rw[e1,e2],ae,by unfold maxLen;omega,fun i hi=>ae⟩
 ·refine⟨some ⟨b,0,none⟩,cap,e1,e4,e5,fun i hi=>⟨b,0,rfl,?_,?_⟩⟩
  ·rw[Nat.zero_add];exact e3.cell _ (by rw[e7 _ ae,(hg i hi).1])
  ·rw[Nat.zero_add];exact e3.cell _ (by rw[e7 _ ae,(hg i hi).2])
def MkP(P:LP)(w:World)(e:Ending)(w':World):Prop:=∃ vr vo va,e = .returned (.agg #[.int .i64 (P.n:Int),vr,vo])/\Ext w w'/\PM P w' vr vo va
structure Sm(P:LP):Prop where
 n:P.n<=3
 m:P.m<=6
 A:∀ i,i<P.m->∀ k,k<P.n->ZB 54 (2*P.A i k)
 B:∀ i,i<P.m->ZB 54 (2*P.B i)
 C:∀ k,k<P.n->ZB 54 (2*P.C k)
theorem zU:ZB 54 (2:Rat):=⟨2,rfl,af⟩
theorem Ma{x:Rat}(h:ZB 54 (2*x)):QB 2 x:=ZB.qb (D:=2) af zU h af
section
variable {P:LP}
theorem Sm.qa(h:Sm P):∀ i,i<P.m->∀ j,j<P.n->QB 2 (P.A i j):=fun i hi j hj=>Ma (h.A i hi j hj)
theorem Sm.qb(h:Sm P):∀ i,i<P.m->QB 2 (P.B i):=fun i hi=>Ma (h.B i hi)
theorem Sm.qc(h:Sm P):∀ j,j<P.n->QB 2 (P.C j):=fun j hj=>Ma (h.C j hj)
theorem Sm.obj(h:Sm P){C:Nat->Rat}(hC:∀ k,k<P.n->ZB 54 (2*C k)):Sm { P with C:=C }:=⟨h.n,h.m,h.A,h.B,hC⟩
theorem Sm.zero(h:Sm P):Sm { P with C:=fun _=>0 }:=h.obj fun k _=>by rw[Rat.mul_zero];exact ZB.zero _
theorem Sm.unit(h:Sm P)(k:Nat){s:Rat}(hs:s=1∨s=-1):Sm (P.unit k s):=h.obj fun j _=>by
 show ZB 54 (2*(if j=k then s else 0));split
 ·rcases hs with rfl|rfl
  ·exact⟨2,by grind,af⟩
  ·exact⟨-2,by grind,af⟩
 ·rw[Rat.mul_zero];exact ZB.zero _
theorem Sm.rows(h:Sm P){m:Nat}(hm:m<=P.m):Sm { P with m:=m }:=⟨h.n,Nat.le_trans hm h.m,fun i hi=>h.A i (Nat.lt_of_lt_of_le hi hm),fun i hi=>h.B i (Nat.lt_of_lt_of_le hi hm),h.C⟩
end
structure yv(w:World)(v:Value)(m:Nat)(t:Nat->ByteArray):Prop where
 rs:Rs w v m t
 sz:∀ i,i<m->(t i).size<=1000000
 le:m<=1000
 q:LY t m 20
theorem yv.ext{w w':World}{v:Value}{m:Nat}{t:Nat->ByteArray}(h:yv w v m t)(e:Ext w w'):yv w' v m t:=⟨h.rs.ext e,h.sz,h.le,h.q⟩
theorem yv.nil(w:World):yv w (.slice none 0 0) 0 (fun _=>⟨#[]⟩):=⟨Rd.nil w _,fun i hi=>absurd hi (Nat.not_lt_zero i),af,fun i hi=>absurd hi (Nat.not_lt_zero i)⟩
theorem yv.qs{X w:World}{v:Value}{n q:Nat}{x:Nat->Rat}(h:Nq X w v n x)(hx:∀ j,j<n->QB q (x j))(hq:q<=20)(hn:n<=1000):yv w v n (fun j=>qs (x j)) :=
 ⟨h.rd (qI hn),fun j hj=>((hx j hj).mono hq).sz af,hn,fun j hj _=>⟨x j,rfl,(hx j hj).mono hq⟩⟩
section
variable {P:LP} {X w:World} {vr vc v:Value} {va:Nat->Value}
theorem eK.texts (h:eK P 17 X w v) (hn:P.n<=1000) (hm:P.m<=1000):∃ kd val o1 m1 c1 o2 m2 c2 o3 m3 c3 t1 t2 t3,v = .agg #[.int .i64 kd,.string val,.slice o1 m1 c1,.slice o2 m2 c2,.slice o3 m3 c3]/\val.size<=1000000 /\
    yv w (.slice o1 m1 c1) m1 t1/\yv w (.slice o2 m2 c2) m2 t2/\yv w (.slice o3 m3 c3) m3 t3/\V6 P kd val t1 m1 t2 m2 t3 m3=0:=by
 rcases h with⟨val,x,y,vp,vd,rfl,h2,h3,h4,h5,h6,h7⟩|⟨y,vd,rfl,h2,h3,h4⟩|⟨x,d,vp,vd,rfl,h2,h3,h4,h5,h6⟩
 ·obtain⟨a,c,rfl⟩:=h6.oq;obtain⟨a',c',rfl⟩:=h7.oq;exact⟨_,_,_,_,_,_,_,_,_,_,_,_,_,_,rfl,h3.sz af,yv.qs h6 h4 af hn,yv.qs h7 h5 af hm,yv.nil w,Me h2 h4 h5 h3 af⟩
 ·obtain⟨a,c,rfl⟩:=h4.oq;exact⟨_,_,_,_,_,_,_,_,_,_,_,_,_,_,rfl,af,yv.nil w,yv.qs h4 h3 af hm,yv.nil w,Rc h2 h3 af⟩
 ·obtain⟨a,c,rfl⟩:=h5.oq;obtain⟨a',c',rfl⟩:=h6.oq;exact⟨_,_,_,_,_,_,_,_,_,_,_,_,_,_,rfl,af,yv.qs h5 h3 af hn,yv.nil w,yv.qs h6 h4 af hn,Md h2 h3 h4 af⟩
variable (g:Gd w) (hP:PM P w vr vc va) (S:Sm P)
include g hP S
end
section
variable {P:LP} {v v':Rat} {x y x' y' d:Nat->Rat}
theorem j2.unique(h:j2 P v x y)(h':j2 P v' x' y'):v=v':=by
 have a:=h.least _ h'.mh;have b:=h'.least _ h.mh;rw[h'.worth] at a;rw[h.worth] at b;grind
theorem j2.Ny(h:j2 P v x y)(h':gS P y'):False:=h'.none _ h.mh
theorem j2.AE(h:j2 P v x y)(h':iL P x' d):False:=by
 obtain⟨z,hz,hv⟩:=h'.deep (v-1);have:=h.least _ hz;grind
theorem eK.known{q:Nat}{X w:World}{u:Value}(h:eK P q X w u)(hb:j2 P v x y):∃ o1 m1 c1 o2 m2 c2,u = .agg #[.int .i64 1,.string (qs v),.slice o1 m1 c1,.slice o2 m2 c2,.slice none 0 0]:=by
 rcases h with⟨val,x1,y1,vp,vd,rfl,h2,h3,h4,h5,h6,h7⟩|⟨y1,vd,rfl,h2,h3,h4⟩|⟨x1,d1,vp,vd,rfl,h2,h3,h4,h5,h6⟩
 ·obtain⟨a,c,rfl⟩:=h6.oq;obtain⟨a',c',rfl⟩:=h7.oq;rw[h2.unique hb];exact⟨_,_,_,_,_,_,rfl⟩
 ·exact(hb.Ny h2).elim
 ·exact(hb.AE h2).elim
theorem Vn.known{k q:Nat}{w w':World}{e:Ending}(h:Vn P k q w e w')(h1:j2 (P.unit k 1) v x y)(h2:j2 (P.unit k (-1)) v' x' y'):e = .returned (.tuple #[.string (qs v),.string (qs (-v')),.int .i64 0])/\Ext w w':=by
 obtain⟨he,h|⟨lo,hi,rfl,ha,hb⟩⟩:=h
 ·obtain⟨_,z,hz⟩:=h;exact(h1.Ny (y':=z) ⟨hz.pos,hz.comb,hz.neg⟩).elim
 ·refine⟨?_,he⟩;rcases ha with⟨z,⟨_,_,hz⟩,_,rfl⟩|⟨⟨_,_,hf⟩,_⟩
  ·rcases hb with⟨z2,⟨_,_,jh⟩,_,rfl⟩|⟨⟨_,_,hf⟩,_⟩
   ·rw[hz.unique h1,jh.unique h2]
   ·exact(h2.AE hf).elim
  ·exact(h1.AE hf).elim
end
def PlW(w:World)(wo:Option Addr)(m:Nat)(c:Nat->Nat->Int):Prop:=∀ i,i<m->∃ wa o,wo=some ⟨wa,o,none⟩/\∀ j,j<4->w.cell? ⟨wa,o+i*4+j,none⟩=some (.int .i8 (c i j))
theorem PlW.ext{w w':World}{wo:Option Addr}{m:Nat}{c:Nat->Nat->Int}(h:PlW w wo m c)(e:Ext w w'):PlW w' wo m c:=fun i hi=>let ⟨wa,o,a,b⟩:=h i hi;⟨wa,o,a,fun j hj=>aC e (b j hj)⟩
theorem IA{s:ByteArray}(h:rq s=true):∃ q:Rat,s=qs q:=by
 obtain⟨q,hq,hn,hd⟩:=rp.1 h;refine⟨q,?_⟩;cases s with
 | mk d =>
  have:d.toList=ql q:=hq;unfold qs
  congr 1
  rw[← this]
theorem qt{q:Rat}{k:Nat}(h:(qs q).size<=k):QB k q:=by
 rw[rz] at h;by_cases hd:q.den=1
 ·rw[ik hd] at h;refine⟨dU h,?_⟩;have:=List.length_pos_iff.2 (Ci q.num);rw[hd];exact Nat.one_lt_pow ae af
 ·rw[fV hd,List.length_append,List.length_cons] at h;exact⟨dU ae,cC ae⟩
theorem LY.short{t:Nat->ByteArray}{m r:Nat}(h:∀ i,i<m->(t i).size<=r):LY t m r:=fun i hi hr=>by
 obtain⟨q,hq⟩:=IA hr;have:=h i hi;rw[hq] at this;exact⟨q,hq,qt this⟩
theorem yv.short{w:World}{v:Value}{m:Nat}{t:Nat->ByteArray}(h:Rs w v m t)(hs:∀ i,i<m->(t i).size<=20)(hm:m<=1000):yv w v m t:=⟨h,fun i hi=>Nat.le_trans (hs i hi) af,hm,LY.short hs⟩
section
variable {P:LP} {v u:Rat} {x y d z:Nat->Rat}
abbrev LP.three(P:LP):LP:={ P with C:=fun k=>3*P.C k }
abbrev LP.less(P:LP)(m:Nat):LP:={ P with m:=m }
theorem yU(x:Nat->Rat):P.three.obj x=3*P.obj x:=by
 show bD P.n (fun k=>3*P.C k*x k)=_;rw[LP.obj,← dB];exact bN fun k _=>by grind
theorem j2.three(h:j2 P v x y):j2 P.three (3*v) x (fun i=>3*y i):=by
 refine⟨h.mh,fun i hi=>by have:=h.pos i hi;grind,fun k hk=>?_,?_,by rw[yU,h.worth]⟩
 ·have e:P.three.comb (fun i=>3*y i) k=3*P.comb y k:=by
   show bD P.m (fun i=>3*y i*P.A i k)=_;rw[LP.comb,← dB];exact bN fun i _=>by grind
  rw[e,h.comb k hk];show 3 * -P.C k=-(3*P.C k);grind
 ·have e:P.three.yu (fun i=>3*y i)=3*P.yu y:=by
   show bD P.m (fun i=>3*y i*P.B i)=_;rw[LP.yu,← dB];exact bN fun i _=>by grind
  rw[e,h.yu];grind
theorem gS.three(h:gS P y):gS P.three y:=⟨h.pos,h.comb,h.neg⟩
theorem iL.three(h:iL P x d):iL P.three x d:=⟨h.mh,h.row,by rw[yU];have:=h.worth;grind⟩
theorem iL.less{m:Nat}(h:iL P x d)(hm:m<=P.m):iL (P.less m) x d:=⟨fun i hi=>h.mh i (Nat.lt_of_lt_of_le hi hm),fun i hi=>h.row i (Nat.lt_of_lt_of_le hi hm),h.worth⟩
def RSh(kd:Int)(val:ByteArray)(v:Value):Prop:=∃ o1 m1 c1 o2 m2 c2 o3 m3 c3,v = .agg #[.int .i64 kd,.string val,.slice o1 m1 c1,.slice o2 m2 c2,.slice o3 m3 c3]
theorem eK.way{q:Nat}{X w:World}{r:Value}(h:eK P q X w r):(∃ v x y,j2 P v x y/\QB q v/\RSh 1 (qs v) r)∨(∃ y,gS P y/\RSh 2 ⟨#[]⟩ r)∨(∃ x d,iL P x d/\RSh 3 ⟨#[]⟩ r):=by
 rcases h with⟨val,x,y,vp,vd,rfl,h2,h3,h4,h5,h6,h7⟩|⟨y,vd,rfl,h2,h3,h4⟩|⟨x,d,vp,vd,rfl,h2,h3,h4,h5,h6⟩
 ·obtain⟨a,c,rfl⟩:=h6.oq;obtain⟨a',c',rfl⟩:=h7.oq;exact Or.inl ⟨val,x,y,h2,h3,_,_,_,_,_,_,_,_,_,rfl⟩
 ·obtain⟨a,c,rfl⟩:=h4.oq;exact Or.inr (Or.inl ⟨y,h2,_,_,_,_,_,_,_,_,_,rfl⟩)
 ·obtain⟨a,c,rfl⟩:=h5.oq;obtain⟨a',c',rfl⟩:=h6.oq;exact Or.inr (Or.inr ⟨x,d,h2,_,_,_,_,_,_,_,_,_,rfl⟩)
abbrev LP.some(P:LP)(m:Nat)(f:Nat->Nat):LP:={ P with m:=m,A:=fun i=>P.A (f i),B:=fun i=>P.B (f i) }
theorem Sm.some(h:Sm P){m:Nat}{f:Nat->Nat}(hm:m<=6)(hf:∀ j,j<m->f j<P.m):Sm (P.some m f):=⟨h.n,hm,fun i hi=>h.A _ (hf i hi),fun i hi=>h.B _ (hf i hi),h.C⟩
end
def l4(a b c d:Rat)(j:Nat):Rat:=if j=0 then a else if j=1 then b else if j=2 then c else d
theorem Gk(a b c d:Rat):l4 a b c d 0=a:=rfl
theorem Gj(a b c d:Rat):l4 a b c d 1=b:=rfl
theorem Gi(a b c d:Rat):l4 a b c d 2=c:=rfl
theorem Dw(a b c d:Rat):l4 a b c d 3=d:=rfl
theorem lt4{j:Nat}(h:j<4):j=0∨j=1∨j=2∨j=3:=ae
def bH(k:Nat)(p:Nat->V3):LP:=⟨4,2*k,fun i=>if i % 2=0 then l4 (-(p (i / 2)).x) (-(p (i / 2)).y) (-1) (-1) else l4 (p (i / 2)).x (p (i / 2)).y 1 (-1),fun i=>if i % 2=0 then -(p (i / 2)).z else(p (i / 2)).z,l4 0 0 0 1⟩
def cS(p:Nat->V3)(x:Nat->Rat)(i:Nat):Rat:=(p i).z-(x 0*(p i).x+x 1*(p i).y+x 2)
def qL(q:Rat):Prop:=∃ a:Int,q=(a:Rat)/\-9<=a/\a<=9
structure cZ(v:V3):Prop where
 x:qL v.x
 y:qL v.y
 z:qL v.z
theorem Wf(g:Nat->Rat):bD 4 g=g 0+g 1+g 2+g 3:=by simp only[bD];grind
section
variable {k:Nat} {p:Nat->V3} {x y d:Nat->Rat} {v v':Rat}
theorem Jd:(bH k p).obj x=x 3:=by
 show bD 4 (fun j=>l4 0 0 0 1 j*x j)=x 3;rw[Wf];simp only[Gk,Gj,Gi,Dw];grind
theorem s9(i j:Nat):(bH k p).A (2*i) j=l4 (-(p i).x) (-(p i).y) (-1) (-1) j:=by
 simp only[bH,show 2*i % 2=0 by omega,show 2*i / 2=i by omega,if_true]
theorem s8(i j:Nat):(bH k p).A (2*i+1) j=l4 (p i).x (p i).y 1 (-1) j:=by
 show(if (2*i+1) % 2=0 then _ else _:Nat->Rat) j=_;rw[if_neg ae,show(2*i+1) / 2=i by omega]
theorem D4(i:Nat)(x:Nat->Rat):bD 4 (fun j=>(bH k p).A (2*i) j*x j)=-(p i).x*x 0-(p i).y*x 1-x 2-x 3:=by
 rw[Wf];simp only[s9,Gk,Gj,Gi,Dw];grind
theorem Jc(i:Nat)(x:Nat->Rat):bD 4 (fun j=>(bH k p).A (2*i+1) j*x j)=(p i).x*x 0+(p i).y*x 1+x 2-x 3:=by
 rw[Wf];simp only[s8,Gk,Gj,Gi,Dw];grind
theorem A6(i:Nat):(bH k p).B (2*i)=-(p i).z:=by simp only[bH,show 2*i % 2=0 by omega,show 2*i / 2=i by omega,if_true]
theorem A5(i:Nat):(bH k p).B (2*i+1)=(p i).z:=by
 show(if (2*i+1) % 2=0 then _ else _:Rat)=_;rw[if_neg ae,show(2*i+1) / 2=i by omega]
theorem A3{m:Nat->Prop}(h0:∀ i,i<k->m (2*i))(h1:∀ i,i<k->m (2*i+1)):∀ i,i<2*k->m i:=fun i hi=>by
 rcases Nat.mod_two_eq_zero_or_one i with h|h
 ·have:=h0 (i / 2) ae;rwa[show 2*(i / 2)=i by omega] at this
 ·have:=h1 (i / 2) ae;rwa[show 2*(i / 2)+1=i by omega] at this
theorem D0(h:∀ i,i<k->cS p x i<=x 3/\-cS p x i<=x 3):(bH k p).mh x :=
 A3 (fun i hi=>by show bD 4 _<=_;rw[D4,A6];have:=(h i hi).1;unfold cS at this;grind) (fun i hi=>by show bD 4 _<=_;rw[Jc,A5];have:=(h i hi).2;unfold cS at this;grind)
theorem Si{q:Rat}(h:qL q):q<=9/\-q<=9:=by
 obtain⟨a,rfl,h1,h2⟩:=h;have e1:((9:Int):Rat)=9:=rfl;constructor
 ·rw[← e1];exact Rat.intCast_le_intCast.2 h2
 ·rw[← e1,← Rat.intCast_neg];exact Rat.intCast_le_intCast.2 ae
theorem AF{q:Rat}(h:qL q):ZB 9 (1*q):=by obtain⟨a,rfl,h1,h2⟩:=h;exact⟨a,Rat.one_mul _,ae⟩
theorem l7{q:Rat}(h:qL q):qL (-q):=by obtain⟨a,rfl,h1,h2⟩:=h;exact⟨-a,(Rat.intCast_neg a).symm,ae,ae⟩
theorem iP{q:Rat}(h:qL q):QB 1 q:=by
 obtain⟨a,rfl,h1,h2⟩:=h;exact QB.int ⟨ae⟩ af
theorem mU:qL 1:=⟨1,rfl,af,af⟩
theorem lM:qL 0:=⟨0,rfl,af,af⟩
theorem Gh{m:Rat->Prop}{a b c d:Rat}(ha:m a)(hb:m b)(hc:m c)(hd:m d)(j:Nat):m (l4 a b c d j):=by unfold l4;split;exact ha;split;exact hb;split;exact hc;exact hd
theorem D5(h:∀ i,i<k->cZ (p i)):∀ i,i<2*k->∀ j,qL ((bH k p).A i j):=A3
 (fun i hi j=>by rw[s9];exact Gh (l7 (h i hi).x) (l7 (h i hi).y) (l7 mU) (l7 mU) j)
 (fun i hi j=>by rw[s8];exact Gh (h i hi).x (h i hi).y mU (l7 mU) j)
theorem Je(h:∀ i,i<k->cZ (p i)):∀ i,i<2*k->qL ((bH k p).B i):=A3
 (fun i hi=>by rw[A6];exact l7 (h i hi).z) (fun i hi=>by rw[A5];exact(h i hi).z)
theorem Uz(j:Nat):qL ((bH k p).C j):=Gh lM lM lM mU j
theorem Ta(h:∀ i,i<k->cZ (p i)):Vm (bH k p) 7:=Sz.szf (s:=1) (K:=9) ⟨af,af,⟨1,rfl,af⟩,fun i hi j _=>AF (D5 h i hi j),fun i hi=>AF (Je h i hi),fun j _=>AF (Uz j)⟩ (by show(4+1)*9*FB 4 9<10 ^ 7;decide)
theorem Lc(h:∀ i,i<k->cZ (p i)):(bH k p).mh (l4 0 0 0 9):=D0 fun i hi=>by
 have:=Si (h i hi).z;simp only[cS,Gk,Gj,Gi,Dw];grind
theorem Ld(hk:0<k)(h:iL (bH k p) x d):False:=by
 have a:bD 4 _<=_:=h.row 0 (show 0<2*k by omega);have b:bD 4 _<=_:=h.row 1 (show 1<2*k by omega);have c:=h.worth;rw[Jd] at c;rw[show(0:Nat)=2*0 from rfl,D4] at a;rw[show(1:Nat)=2*0+1 from rfl,Jc] at b;grind
def oe(a:Rat):Rat:=if a<0 then -a else a
def qz(f:Nat->Rat):Nat->Rat
 | 0=>0
 | k+1=>Aq (qz f k) (oe (f k))
end
def Ug:Nat->V3:=fun i=>if i=0 then⟨0,0,0⟩ else if i=1 then⟨1,0,0⟩ else if i=2 then⟨0,1,0⟩ else⟨1,1,2⟩
def knY:Nat->Rat:=fun i=>if i=0∨i=3∨i=5∨i=6 then 1 / 4 else 0
theorem NV:j2 (bH 4 Ug) (1 / 2) (l4 1 1 (-1 / 2) (1 / 2)) knY:=by
 refine⟨D0 fun i hi=>?_,fun i hi=>?_,fun j hj=>?_,?_,?_⟩
 ·rcases lt4 hi with rfl|rfl|rfl|rfl <;> simp[cS,l4,Ug] <;> grind
 ·unfold knY;split <;> grind
 ·have hj':j<4:=hj;rcases lt4 hj' with rfl|rfl|rfl|rfl <;> simp[LP.comb,bD,bH,Ug,l4,knY] <;> grind
 ·simp[LP.yu,bD,bH,Ug,l4,knY] <;> grind
 ·rw[Jd,Dw]
theorem NU(i:Nat):cZ (Ug i):=by
 unfold Ug;split
 ·exact⟨lM,lM,lM⟩
 ·split
  ·exact⟨mU,lM,lM⟩
  ·split
   ·exact⟨lM,mU,lM⟩
   ·exact⟨mU,mU,⟨2,rfl,af,af⟩⟩
structure YY(w:World)(vv:Int)(m:Nat)(wo:Option Addr)(c:Nat->Nat->Int)(o0 o1 o2:Int):Prop where
 v:0<=vv/\vv<=255
 rows:PlW w wo m c
 c:∀ i j,-128<=c i j/\c i j<=127
 o0:-128<=o0/\o0<=127
 o1:-128<=o1/\o1<=127
 o2:-128<=o2/\o2<=127
theorem YY.ext{w w':World}{vv:Int}{m:Nat}{wo:Option Addr}{c:Nat->Nat->Int}{o0 o1 o2:Int}(h:YY w vv m wo c o0 o1 o2)(e:Ext w w'):YY w' vv m wo c o0 o1 o2:=⟨h.v,h.rows.ext e,h.c,h.o0,h.o1,h.o2⟩
