/- Part 27. -/
import Derived.Test.YtmahadmefplbnaaGreatDoorQFVB
import Derived.Test.YtmahadmefplbnaaGreatDoorQFV26
import Derived.Laws.CopyOwn
import Derived.Deep.OwnRows
import Derived.Deep.CutBlock
set_option maxRecDepth 100000
set_option maxHeartbeats 2000000
open Go.Proofs.Tryz
set_option linter.unusedSimpArgs false
set_option linter.unusedVariables false
namespace Go.Proofs.YtmahadmefplbnaaGreatDoor
open Go Go.RowKit
theorem Aj(n:Nat)(hn:n<=1000)(w:World):Calls prog 214 #[.int .u64 1,.int .u64 (n:Int)] w fun e w'=>e = .returned (.tuple #[.int .u64 0,.int .u64 (n:Int)])/\w=w':=by
 have h:=bits_Mul 1 n ae ae w;have e1:1*n / 18446744073709551616=0:=ae;have e2:1*n % 18446744073709551616=n:=ae;rw[e1,e2] at h;exact h.mono (fun _ _ h=>⟨h.1,h.2.symm⟩)
theorem gw:(prog.info? 34).map (fun i=>(i.zero,i.size,i.bytes))=some (some (.string ⟨#[]⟩),1,16):=ag
theorem tX:(prog.info? 34).map (·.size)=some 1:=ag
theorem Cw{w:World}{k:Nat}{z:Value}{t:TypeId}(h:aq w k #[z] t):∀ j v,[z][j]?=some v->w.cell? ((⟨k,0,none⟩:Addr).add j)=some v:=by
 intro j v hv;cases j with
 | zero=>simp only[List.getElem?_cons_zero] at hv;rw[← hv];exact h.cell 0 rfl
 | succ j=>simp at hv
theorem Ext.setRow{X w:World}{k:Nat}{cs cur:Array Value}{t:TypeId}(h:Ext X w)(hk:X.heap.size<=k)(hB:aq w k cur t):Ext X (w.setRow k cs):=below_setRow h hk cs
theorem aq.setRow{w:World}{k:Nat}{cs cur:Array Value}{t:TypeId}(hB:aq w k cur t):aq (w.setRow k cs) k cs t:=⟨setRow_heap w k cur cs t (0,0) hB.out⟩
theorem Mv.setRow{X w W:World}{S:Nat->Prop}{k:Nat}{cs cur:Array Value}{t:TypeId}(h:Mv X w S W)(hk:S k∨w.heap.size<=k)(hB:aq W k cur t):Mv X w S (W.setRow k cs) :=
 ⟨h.ext.setRow (h.le hk) hB,h.base,h.low,by rw[size_setRow];exact h.size,fun q c t' hq hB'=>⟨(setRow_other W k q cs (fun e=>hk.elim (fun hs=>hq (e▸hs)) (fun hs=>by have:=hB'.lt;omega))).trans (h.fr q c t' hq hB').out⟩⟩
theorem Cv {P:Program} {w w':World} {o:Oper} {a:Act} {Q:Exit->Act->World->Prop} {K:Act->World->Prop} {d s:Operand} {dT sT:TypeId} {v dv sv:Value} (hgd:o.guard=none)
    (ho:o.op = .call { callee:=.builtin .copy,args:=#[d,s],argTypes:=#[dT,sT] }) (hd:a.eval d=dv) (hs:a.eval s=sv) (hr:(Builtin.copy_ #[dT,sT] o.type #[dv,sv]).run P w = .ok v w')
    (h:K (a.put o.dst v) w'):o.wp P a w K Q:=by
 unfold Oper.wp;simp[execOp,ho,resolve,invoke,builtin,hd,hs,hr,Result.andThen];exact h
theorem E8{c n:Nat}(h:0<c)(h2:c<n):∃ m,m=Nat.min c (n-c)/\m<=c/\m<=n-c/\0<m:=by
 refine⟨_,rfl,Nat.min_le_left _ _,Nat.min_le_right _ _,?_⟩;have:0<min c (n-c):=ae;exact this
theorem zI{n c m:Nat}{z:Value}{CK:Array Value}(hs:CK.size=n)(hcn:c<=n)(hm:m<=n-c):(CK.toList.take c ++ List.replicate m z ++ CK.toList.drop (c+m)).toArray.size=n:=by
 simp[hs];omega
def Mk(w:World)(n:Nat)(z:Value)(t:TypeId)(e:Ending)(w':World):Prop:=∃ (k:Nat) (CZ:Array Value),e = .returned (.slice (some ⟨k,0,none⟩) n n)/\Ext w w'/\w.heap.size<=k/\aq w' k CZ t/\∀ j,j<n->CZ[j]?=some z
theorem Mk.of{w w':World}{n k:Nat}{z:Value}{t:TypeId}{CZ:Array Value}(h1:Ext w w')(h2:w.heap.size<=k)(h3:aq w' k CZ t)(h4:∀ j,j<n->CZ[j]?=some z):Mk w n z t (.returned (.slice (some ⟨k,0,none⟩) n n)) w':=⟨k,CZ,rfl,h1,h2,h3,h4⟩
theorem uV{n:Nat}{z:Value}{C0:Array Value}(hz:C0.size=n)(hn0:0<n):(z :: C0.toList.tail).toArray.size=n:=by
 simp[hz];omega
theorem uW{z:Value}{C0:Array Value}:∀ j,j<1->(z :: C0.toList.tail).toArray[j]?=some z:=fun j hj=>by
 have:j=0:=ae;subst this;simp
theorem Ce{w:World}{k c m:Nat}{CK:Array Value}{t:TypeId}{z:Value}(h:aq w k CK t)(hc:∀ j,j<c->CK[j]?=some z)(hm:m<=c):∀ j v,(List.replicate m z)[j]?=some v->w.cell? ((⟨k,0,none⟩:Addr).add j)=some v:=by
 intro j v hv;rw[List.getElem?_replicate] at hv;split at hv
 ·rename_i hj;have e:(⟨k,0,none⟩:Addr).add j=⟨k,j,none⟩:=by unfold Addr.add;split <;> simp_all
  rw[e,← hv];exact h.cell j (hc j ae)
 ·cases hv
theorem Cg(m:Nat):∀ v ∈ List.replicate m (Value.string ⟨#[48]⟩),v.oneCell'=true:=fun v hv=>by rw[List.eq_of_mem_replicate hv];rfl
theorem zJ {n c m:Nat} {z:Value} {CK:Array Value} (hc:∀ j,j<c->CK[j]?=some z) (hs:CK.size=n) (hcn:c<=n) (hm:m<=n-c) (j:Nat) (hj:j<c+m) :
    (CK.toList.take c ++ List.replicate m z ++ CK.toList.drop (c+m)).toArray[j]?=some z:=by
 have hl:(CK.toList.take c).length=c:=by simp[hs];omega
 simp only[List.getElem?_toArray];by_cases h1:j<c
 ·rw[List.append_assoc,List.getElem?_append_left ae,List.getElem?_take,if_pos h1,Array.getElem?_toList];exact hc j h1
 ·rw[List.getElem?_append_left (by simp[hl];omega),List.getElem?_append_right ae,hl,List.getElem?_replicate,if_pos ae]
theorem Cf(xb n:Nat)(w:World)(bx:aq w xb #[.string ⟨#[48]⟩] 34)(hn0:0<n)(hn:n<=1000):Calls prog 142 #[.slice (some ⟨xb,0,none⟩) 1 1,.int .i64 (n:Int)] w (Mk w n (.string ⟨#[48]⟩) 34):=by
 have HB:=ai bx;clear bx;have h0:¬ (n:Int)<0:=ae;have hmk:=run_make_row' (P:=prog) 30 34 (.string ⟨#[]⟩) 16 underlying30 gw rfl .i64 .i64 n ae ae;go_enter func142,ntmps142;go_upto_region 7 with(go_at_call 214;refine(Aj n hn w).mono ?_;rintro e _ ⟨rfl,rfl⟩)
 refine aw (fun W=>Ext w W/\aq W xb #[.string ⟨#[48]⟩] 34/\∃ C0,aq W w.heap.size C0 34/\C0.size=n) ⟨(Ext.refl w).alloc _,HB.o.alloc _,_,aq.new _ _ _,size_madeCells _ _⟩ ?_;rintro w1 ⟨e1,b1,C0,b2,hz⟩;go_upto_block 0 with(refine wpList_copy_own rfl (.tmp 31) (.tmp 32) 30 30 rfl 34 underlying30 tX w.heap.size 0 n n ⟨xb,0,none⟩ 1 1 rfl rfl C0 34 b2.out [.string ⟨#[48]⟩] (by simp[Nat.min_def];omega) (Cw b1) (by simp;omega) (by intro v hv;simp at hv;subst hv;rfl) ?_)
 refine aw (fun W=>Ext w W/\∃ C1,aq W w.heap.size C1 34/\C1.size=n/\∀ j,j<1->C1[j]?=some (.string ⟨#[48]⟩)) ⟨e1.setRow (Nat.le_refl _) b2,_,b2.setRow,uV hz hn0,uW⟩ ?_;clear b1 b2 hz e1 hmk;rintro w2 ⟨e2,C1,b3,hz,hc⟩;have HX2:=ai e2;have HZ1:=ai b3;have HZS:=ai hz;have HZC:=ai hc;clear e2 b3 hz hc;go_wp2_with fail;go_loopw [8] (fun x0_ wx=>∃ c:Nat,x0_ = .int .i64 c/\0<c/\c<=n/\Hid (Ext w wx/\∃ CK,aq wx w.heap.size CK 34/\CK.size=n/\∀ j,j<c->CK[j]?=some (.string ⟨#[48]⟩))) (fun x0_ _=>n-(intOf x0_).toNat)
 case atStart=>exact⟨1,rfl,ae,ae,ai ⟨HX2.o,C1,HZ1.o,HZS.o,HZC.o⟩⟩
 case round =>
  rename World=>w3
  obtain⟨c,rfl,hc0,hc1,HH⟩:=hrel;have HX3:=ai HH.o.1;obtain⟨CK,a1_,a2_,a3_⟩:=HH.o.2;have HBz_3:=ai a1_;have HCS:=ai a2_;have HCK:=ai a3_;clear a1_ a2_ a3_ HH;by_cases hlt:c<n
  ·have hlt2:(c:Int)<(n:Int):=ae;have hne:¬ n=c:=ae;obtain⟨m,em,em1,em2,em3⟩:=E8 hc0 hlt;have HEM:=ai em;clear em;go_wp2_with fail;refine ay [.val (.int .i64 (c:Int)),.val (.slice (some ⟨w.heap.size,0,none⟩) n n),.val (.int .i64 (c:Int)),.val (.slice (some ⟨w.heap.size,c,none⟩) (n-c) (n-c)),.val (.slice (some ⟨w.heap.size,0,none⟩) n n),.val (.int .i64 (c:Int)),.val (.slice (some ⟨w.heap.size,0,none⟩) c n),.ev (.int .i64 (m:Int)),.val (.int .i64 (c+m:Int)),.val (.int .i64 (c+m:Int))] (fun L g W=>(if L 7=true then ∃ CD,aq W w.heap.size CD 34/\CD.size=n/\∀ j,j<c+m->CD[j]?=some (.string ⟨#[48]⟩) else aq W w.heap.size CK 34)) (S:=fun k=>k=w.heap.size) ag ag ag (Mv.refl HX3.o (fun k h=>(fun e=>Nat.le_trans (show w.heap.size<=w.heap.size from(Nat.le_refl _)) (Nat.le_of_eq e.symm)) h)) ?_ ?_ ?_ ?_ (fun gv_ w4 hm_ he_=>?_)
   ·exact fun gz_=>(by rw[if_neg af];exact HBz_3.o.drew)
   ·exact fun L g W W1 h e=>aZ (h) (fun⟨CD,b,c⟩=>⟨CD,b.ext e,c⟩) (fun h=>h.ext e)
   ·intro i v L g W hi h;have n7_:i≠7:=fun e=>by subst e;exact absurd (show false=true from hi) af
    simp only[au n7_,av n7_];exact h
   ·skip
    refine RI 8 (.int .i64 (c:Int))<|RI 7 (.slice (some ⟨w.heap.size,0,none⟩) n n)<|RI 8 (.int .i64 (c:Int))<|R2 1 2<|RI 7 (.slice (some ⟨w.heap.size,0,none⟩) n n)<|RI 8 (.int .i64 (c:Int))<|R2 4 5 ?_;refine aA.cons (fun L_ g_ A_ W_ hs_=>?_) ?_
    ·have q41_:=hs_.val 3;have q44_:=hs_.val 6;refine cI.ev fun K_ hK_=>?_;have n_:=hs_.not;have e_:=hs_.e;rw[if_neg (by rw[n_];decide)] at e_;have HM_:=hs_.mv;have hr_:=run_copy_row (P:=prog) W_ 30 30 3 34 w.heap.size c (n-c) (n-c) ⟨w.heap.size,0,none⟩ c n CK 34 (List.replicate m (.string ⟨#[48]⟩)) underlying30 tX e_.out (by rw[List.length_replicate];exact HEM.o) (Ce e_ HCK.o em1) (by rw[List.length_replicate,HCS.o];omega) (Cg _);refine Cv rfl rfl (by go_simp) (by go_simp) hr_ ?_;rw[List.length_replicate];exact hK_.o _ (HM_.setRow (Or.inl rfl) e_) (by rw[aM,if_pos rfl];exact⟨_,e_.setRow,zI HCS.o hc1 em2,zJ HCK.o HCS.o hc1 em2⟩)
    refine RV (fun A_ hs_ K_ hK_=>?_) ?_;· have q38_:=hs_.val 0;have q45_:=hs_.ev 7;go_simp;try go_bits;exact bY hK_
    exact R1 8<|aA.nil
   simp only[dD,Ke.value,aX,Act.put,List.setIfInBounds_toArray,List.set_cons_zero,List.set_cons_succ];have HX4:Hid (Ext w w4):=ai hm_.ext;have h_:=(he_);rw[if_pos rfl] at h_;obtain⟨CD,a1_,a2_,a3_⟩:=h_;have HBz_4:=ai a1_;have HDS:=ai a2_;have HCD:=ai a3_;clear a1_ a2_ a3_;clear hm_ he_;go_wp2_with fail;go_roundw
   case rel=>exact⟨c+m,by go_num,ae,ae,ai ⟨HX4.o,CD,HBz_4.o,HDS.o,HCD.o⟩⟩
   case measure=>simp[intOf];omega
  ·have hk2:c=n:=ae;subst hk2;have hge:¬ (c:Int)<(c:Int):=ae;go_wp2;go_ret;exact Mk.of HX3.o (Nat.le_refl _) HBz_3.o HCK.o
theorem zH(xb:Nat)(w:World):Calls prog 142 #[.slice (some ⟨xb,0,none⟩) 1 1,.int .i64 0] w (Mk w 0 (.string ⟨#[48]⟩) 34):=by
 have hmk:=run_make_row' (P:=prog) 30 34 (.string ⟨#[]⟩) 16 underlying30 gw rfl .i64 .i64 0 ae ae;have hmu:=Aj 0 ae;simp only[Int.natCast_zero,Int.cast_ofNat_Int] at hmk hmu;go_enter func142,ntmps142;go_upto_region 7 with(go_at_call 214;refine(hmu w).mono ?_;rintro e _ ⟨rfl,rfl⟩)
 refine aw (fun W=>Ext w W/\∃ C0,aq W w.heap.size C0 34) ⟨(Ext.refl w).alloc _,_,aq.new _ _ _⟩ ?_;rintro w1 ⟨e1,C0,b2⟩;have HX:=ai e1;have HB:=ai b2;clear e1 b2 hmk hmu;go_upto_block 0 with(refine wpList_copy_nothing rfl (.tmp 31) (.tmp 32) 30 30 rfl 34 underlying30 tX _ _ _ _ _ _ rfl rfl (by simp) ?_)
 go_wp2_with fail;refine wp_loop_rounds 1 ?_;rw[rounds_succ];go_wp2;go_ret;exact Mk.of HX.o (Nat.le_refl _) HB.o (fun j hj=>absurd hj ae)
theorem gL(n:Nat)(hn:n<=1000)(w:World):Calls prog 60 #[.int .i64 n] w (Mk w n (.string ⟨#[48]⟩) 34):=by
 go_enter func60,ntmps60;go_wp2_with fail;have hb:aq (w.alloc (.cells #[.string ⟨#[48]⟩] 34)) w.heap.size #[.string ⟨#[48]⟩] 34:=aq.new _ _ _;by_cases h0:n=0
 ·subst h0;refine(zH _ _).mono ?_;rintro e w1 ⟨k,CZ,rfl,h1,h2,h3,h4⟩;have HH:=ai (Mk.of (z:=.string ⟨#[48]⟩) (n:=0) (((Ext.refl w).alloc _).trans h1) (Nat.le_trans (Nat.le_of_lt (by simp)) h2) h3 h4);clear h1 h2 h3 h4 hb;go_wp2;go_ret;exact HH.o
 ·refine(Cf _ n _ hb ae hn).mono ?_;rintro e w1 ⟨k,CZ,rfl,h1,h2,h3,h4⟩;have HH:=ai (Mk.of (n:=n) (((Ext.refl w).alloc _).trans h1) (Nat.le_trans (Nat.le_of_lt (by simp)) h2) h3 h4);clear h1 h2 h3 h4 hb;go_wp2;go_ret;exact HH.o
theorem F6:QB 1 (1:Rat):=QB.int (n:=1) (k:=1) ⟨af⟩ af
theorem Cc(w:World):Calls prog 62 #[.string ⟨#[45,49]⟩] w (aD w (.string (qs 1))):=by
 have h:=b8 (-1) w (QB.int (n:=-1) (k:=1) ⟨af⟩ af) af;have e:qs (-1)=⟨#[45,49]⟩:=mX;rw[e] at h;have e2:-(-1:Rat)=1:=af;rwa[e2] at h
def jN(w:World)(fb:Nat->Nat)(m n:Nat)(g:Nat->Nat->Value)(t:TypeId):Prop:=∀ i,i<m->∃ C,aq w (fb i) C t/\∀ j,j<n->C[j]?=some (g i j)
section
variable {w w' X:World} {S:Nat->Prop} {fb:Nat->Nat} {m n:Nat} {g:Nat->Nat->Value} {t:TypeId}
theorem jN.ext(h:jN w fb m n g t)(e:Ext w w'):jN w' fb m n g t:=fun i hi=>let ⟨C,a,b⟩:=h i hi;⟨C,a.ext e,b⟩
theorem jN.alloc(h:jN w fb m n g t)(o:Obj):jN (w.alloc o) fb m n g t:=h.ext ((Ext.refl _).alloc o)
theorem jN.drew(h:jN w fb m n g t):jN w.drew fb m n g t:=h.ext (Ext.refl _).drew
theorem jN.other(h:jN w fb m n g t){a:Addr}(u:Value)(hk:∀ i,i<m->fb i≠a.block):jN (w.setCell a u) fb m n g t:=fun i hi=>let ⟨C,a,b⟩:=h i hi;⟨C,a.other u (hk i hi),b⟩
theorem jN.mv(h:jN w fb m n g t)(hm:Mv X w S w')(hk:∀ i,i<m->¬ S (fb i)):jN w' fb m n g t:=fun i hi=>let ⟨C,a,b⟩:=h i hi;⟨C,hm.az a (hk i hi),b⟩
theorem dN{N k:Nat}(h:∀ i,i<m->fb i<N)(hk:N<=k):∀ i,i<m->fb i≠k:=fun i hi e=>by have:=h i hi;omega
theorem jN.cell(h:jN w fb m n g t){i j:Nat}(hi:i<m)(hj:j<n):w.cell? ⟨fb i,j,none⟩=some (g i j):=let ⟨C,a,b⟩:=h i hi;a.cell j (b j hj)
end
structure TM where
 bb:Nat
 bc:Nat
 lb:Nat
 lc:Nat
 ob:Nat
 oc:Nat
 wb:Nat
 wcap:Nat
 fb:Nat->Nat
 fc:Nat->Nat
 bx:Option Addr
 lx:Option Addr
 ox:Option Addr
 wx:Option Addr
 fx:Nat->Option Addr
def oa(n k:Nat)(x:Option Addr):Option Addr:=if 0<n then some ⟨k,0,none⟩ else x
theorem gq{n k:Nat}{x:Option Addr}(h:0<n):oa n k x=some ⟨k,0,none⟩:=if_pos h
def TM.S(M:TM)(p m:Nat)(k:Nat):Prop:=k=p∨k=M.bb∨k=M.lb∨k=M.ob∨k=M.wb∨∃ i,i<m/\k=M.fb i
def rk(P:LP)(T:aN)(M:TM)(CP:Array Value):Prop :=
 CP[0]?=some (.int .i64 (P.n:Int))/\CP[1]?=some (.slice (oa P.m M.bb M.bx) P.m M.bc)/\CP[2]?=some (.slice (oa P.m M.lb M.lx) P.m M.lc)/\CP[3]?=some (.slice (oa P.n M.ob M.ox) P.n M.oc) /\
 CP[4]?=some (.string (qs T.wc))/\CP[5]?=some (.slice (oa P.n M.wb M.wx) P.n M.wcap)
def Bv(P:LP)(T:aN)(M:TM)(CL:Array Value):Prop:=∀ i,i<P.m->CL[i*2]?=some (.string (qs (T.c i)))/\CL[i*2+1]?=some (.slice (oa P.n (M.fb i) (M.fx i)) P.n (M.fc i))
structure GZ(P:LP)(M:TM):Prop where
 b:P.m<=M.bc/\M.bc<=maxLen
 l:P.m<=M.lc/\M.lc<=maxLen
 o:P.n<=M.oc/\M.oc<=maxLen
 w:P.n<=M.wcap/\M.wcap<=maxLen
 f:∀ i,i<P.m->P.n<=M.fc i/\M.fc i<=maxLen
structure rj(P:LP)(T:aN)(p:Nat)(M:TM)(w:World):Prop where
 tab:∃ CP,aq w p CP 185/\rk P T M CP
 jL:0<P.m->∃ CB,aq w M.bb CB 3/\∀ i,i<P.m->CB[i]?=some (.int .i64 (T.b i:Int))
 lin:0<P.m->∃ CL,aq w M.lb CL 182/\Bv P T M CL
 oth:0<P.n->∃ CO,aq w M.ob CO 3/\∀ j,j<P.n->CO[j]?=some (.int .i64 (T.o j:Int))
 wor:0<P.n->∃ CW,aq w M.wb CW 34/\∀ j,j<P.n->CW[j]?=some (.string (qs (T.wf j)))
 kl:0<P.n->jN w M.fb P.m P.n (fun i j => .string (qs (T.f i j))) 34
 inj:0<P.n->∀ i i',i<P.m->i'<P.m->M.fb i=M.fb i'->i=i'
 fw:0<P.n->∀ i,i<P.m->M.fb i≠M.wb
 bo:0<P.m->0<P.n->M.bb≠M.ob
 caps:GZ P M
theorem aq.ne{w:World}{k k':Nat}{cs cs':Array Value}{t t':TypeId}(h:aq w k cs t)(h':aq w k' cs' t')(ht:t≠t'):k≠k':=fun e=>by
 subst e;have:=h.out.symm.trans h'.out;simp only[Option.some.injEq,Obj.cells.injEq] at this;exact ht this.2.1
def pc(T:aN)(row at_ k i:Nat):Rat:=if i<k/\i≠row then T.c i+T.f i at_*T.kx row at_ else T.c i
def pf(T:aN)(row at_ k i j:Nat):Rat:=if i<k/\i≠row then(if j=at_ then 0 else T.f i j)+T.f i at_*T.jK row at_ j else T.f i j
theorem jA{T:aN}{row at_ k i:Nat}(h:¬ (i<k/\i≠row)):pc T row at_ k i=T.c i:=if_neg h
theorem kS{T:aN}{row at_ k i j:Nat}(h:¬ (i<k/\i≠row)):pf T row at_ k i j=T.f i j:=if_neg h
theorem kT{T:aN}{row at_ k i:Nat}(h:i<k/\i≠row):pc T row at_ k i=T.c i+T.f i at_*T.kx row at_:=if_pos h
theorem kR{T:aN}{row at_ k i j:Nat}(h:i<k/\i≠row):pf T row at_ k i j=(if j=at_ then 0 else T.f i j)+T.f i at_*T.jK row at_ j:=if_pos h
def rm(P:LP)(T:aN)(M:TM)(row at_ k:Nat)(C:Array Value):Prop:=∀ i,i<P.m->C[i*2]?=some (.string (qs (pc T row at_ k i)))/\C[i*2+1]?=some (.slice (some ⟨M.fb i,0,none⟩) P.n (M.fc i))
section
variable {P:LP} {T:aN} {M:TM} {row at_ k:Nat} {C D:Array Value} {w w' X:World}
theorem rm.start(h:∀ i,i<P.m->C[i*2]?=some (.string (qs (T.c i)))/\C[i*2+1]?=some (.slice (some ⟨M.fb i,0,none⟩) P.n (M.fc i))):rm P T M row at_ 0 C:=fun i hi=>⟨by rw[jA ae];exact(h i hi).1,(h i hi).2⟩
theorem rm.skip(hk:k=row)(h:rm P T M row at_ k C):rm P T M row at_ (k+1) C:=fun i hi=>⟨by
 rw[(h i hi).1];by_cases hc:i<k/\i≠row
 ·rw[kT hc,kT ae]
 ·rw[jA hc,jA ae],(h i hi).2⟩
theorem rm.now(h:rm P T M row at_ k C)(hk:k<P.m):C[k*2]?=some (.string (qs (T.c k))):=by rw[(h k hk).1,jA ae]
theorem rm.GM(h:rm P T M row at_ k C)(hk:row<P.m):C[row*2]?=some (.string (qs (T.c row))):=by rw[(h row hk).1,jA ae]
theorem rm.step(hk:¬ k=row)(h:rm P T M row at_ k C)(h1:D[k*2]?=some (.string (qs (T.c k+T.f k at_*T.kx row at_))))(h2:∀ i,i≠k*2->D[i]?=C[i]?):rm P T M row at_ (k+1) D:=fun i hi=>⟨by
 by_cases hik:i=k
 ·subst hik;rw[h1,kT ae]
 ·rw[h2 (i*2) ae,(h i hi).1];by_cases hc:i<k/\i≠row
  ·rw[kT hc,kT ae]
  ·rw[jA hc,jA ae],by rw[h2 (i*2+1) ae];exact(h i hi).2⟩
theorem PvF.start{t:TypeId}(h:jN w M.fb P.m P.n (fun i j => .string (qs (T.f i j))) t):jN w M.fb P.m P.n (fun i j => .string (qs (pf T row at_ 0 i j))) t:=fun i hi =>
 let ⟨C,a,b⟩:=h i hi;⟨C,a,fun j hj=>by show C[j]?=some (.string (qs (pf T row at_ 0 i j)));rw[kS ae];exact b j hj⟩
theorem PvF.skip{t:TypeId}(hk:k=row)(h:jN w M.fb P.m P.n (fun i j => .string (qs (pf T row at_ k i j))) t):jN w M.fb P.m P.n (fun i j => .string (qs (pf T row at_ (k+1) i j))) t:=fun i hi =>
 let ⟨C,a,b⟩:=h i hi;⟨C,a,fun j hj=>by
  have:C[j]?=some (.string (qs (pf T row at_ k i j))):=b j hj;show C[j]?=some (.string (qs (pf T row at_ (k+1) i j)));by_cases hc:i<k/\i≠row
  ·rw[kR hc] at this;rw[kR ae];exact this
  ·rw[kS hc] at this;rw[kS ae];exact this⟩
theorem PvF.Hk{t:TypeId}(h:jN w M.fb P.m P.n (fun i j => .string (qs (pf T row at_ k i j))) t)(hk:k<P.m):∃ C,aq w (M.fb k) C t/\∀ j,j<P.n->C[j]?=some (.string (qs (T.f k j))) :=
 let ⟨C,a,b⟩:=h k hk;⟨C,a,fun j hj=>by have:C[j]?=some (.string (qs (pf T row at_ k k j))):=b j hj;rwa[kS ae] at this⟩
theorem PvF.step {t : TypeId} (hm : Mv X w (fun q => q = M.lb ∨ q = M.fb k) w') (inj : ∀ i i', i < P.m -> i' < P.m -> M.fb i = M.fb i' -> i = i') (hlt : k < P.m) (hk : ¬ k = row) (h : jN w M.fb P.m P.n (fun i j => .string (qs (pf T row at_ k i j))) t) (hl : ∀ i, i < P.m -> M.fb i ≠ M.lb)
    (hB:aq w' (M.fb k) D t) (hD:∀ j,j<P.n->D[j]?=some (.string (qs ((if j=at_ then 0 else T.f k j)+T.f k at_*T.jK row at_ j)))):jN w' M.fb P.m P.n (fun i j => .string (qs (pf T row at_ (k+1) i j))) t:=fun i hi=>by
 by_cases hik:i=k
 ·subst hik;exact⟨D,hB,fun j hj=>by show D[j]?=some (.string (qs (pf T row at_ (i+1) i j)));rw[kR ae];exact hD j hj⟩
 ·obtain⟨C,a,b⟩:=h i hi;refine⟨C,hm.az a (fun e=>e.elim (hl i hi) (fun e=>hik (inj i k hi hlt e))),fun j hj=>?_⟩;have:C[j]?=some (.string (qs (pf T row at_ k i j))):=b j hj;show C[j]?=some (.string (qs (pf T row at_ (k+1) i j)));by_cases hc:i<k/\i≠row
  ·rw[kR hc] at this;rw[kR ae];exact this
  ·rw[kS hc] at this;rw[kS ae];exact this
theorem tu {n:Nat} {f:Nat->Rat} {x:Rat} (h:∀ j,j<n->C[j]?=some (.string (qs (if j<k then f j else 0)))) (hk:k<n) (hx:x=f k) (j:Nat) (hj:j<n) :
    (C.setIfInBounds k (.string (qs x)))[j]?=some (.string (qs (if j<k+1 then f j else 0))):=by
 by_cases e:j=k
 ·subst e;rw[if_pos ae,← hx];exact gO (h j hj)
 ·rw[fl (Ne.symm e) (h j hj)];by_cases h1:j<k
  ·rw[if_pos h1,if_pos ae]
  ·rw[if_neg h1,if_neg ae]
end
def TM.ng(M:TM)(row kz n:Nat):TM:={ M with fb:=fun i=>if i=row then kz else M.fb i,fc:=fun i=>if i=row then n else M.fc i }
section
variable {P:LP} {T:aN} {M:TM} {row at_ k kz p:Nat} {w:World}
theorem Ct {CP CB CO CK CY CW:Array Value} (hp:CP[0]?=some (.int .i64 (P.n:Int))/\CP[1]?=some (.slice (some ⟨M.bb,0,none⟩) P.m M.bc)/\CP[2]?=some (.slice (some ⟨M.lb,0,none⟩) P.m M.lc)/\CP[3]?=some (.slice (some ⟨M.ob,0,none⟩) P.n M.oc) /\
    CP[4]?=some (.string (qs (T.wc+T.wf at_*T.kx row at_)))/\CP[5]?=some (.slice (some ⟨M.wb,0,none⟩) P.n M.wcap)) (bp:aq w p CP 185)
    (bb:aq w M.bb (CB.setIfInBounds row (.int .i64 (T.o at_:Int))) 3) (hb:∀ i,i<P.m->CB[i]?=some (.int .i64 (T.b i:Int))) (bo:aq w M.ob (CO.setIfInBounds at_ (.int .i64 (T.b row:Int))) 3) (ho:∀ j,j<P.n->CO[j]?=some (.int .i64 (T.o j:Int)))
    (bl:aq w M.lb ((CK.setIfInBounds (row*2) (.string (qs (T.kx row at_)))).setIfInBounds (row*2+1) (.slice (some ⟨kz,0,none⟩) P.n P.n)) 182) (hl:rm P T M row at_ k CK) (hk:k=P.m) (hf:jN w M.fb P.m P.n (fun i j => .string (qs (pf T row at_ k i j))) 34)
    (bz:aq w kz CY 34) (hz:∀ j,j<P.n->CY[j]?=some (.string (qs (T.jK row at_ j)))) (bw:aq w M.wb CW 34) (hw:∀ j,j<P.n->CW[j]?=some (.string (qs ((if j=at_ then 0 else T.wf j)+T.wf at_*T.jK row at_ j)))) (hr:row<P.m) (ha:at_<P.n)
    (inj:∀ i i',i<P.m->i'<P.m->M.fb i=M.fb i'->i=i') (fw:∀ i,i<P.m->M.fb i≠M.wb) (hbo:M.bb≠M.ob) (zn:∀ i,i<P.m->M.fb i≠kz) (zw:kz≠M.wb) (hcp:GZ P M) (hnm:P.n<=maxLen):rj P (T.aF row at_) p (M.ng row kz P.n) w where
 tab:=⟨CP,bp,by
  have hm0:0<P.m:=ae;have hn0:0<P.n:=ae;simp only[rk,TM.ng,gq hm0,gq hn0];exact hp⟩
 caps:=⟨hcp.b,hcp.l,hcp.o,hcp.w,fun i hi=>by
  simp only[TM.ng];split
  ·exact⟨Nat.le_refl _,hnm⟩
  ·exact hcp.f i hi⟩
 jL:=fun _=>⟨_,bb,fun i hi=>by
  by_cases e:i=row
  ·subst e;simp only[aN.aF,if_true];exact gO (hb i hi)
  ·simp only[aN.aF,if_neg e];exact fl (Ne.symm e) (hb i hi)⟩
 lin:=fun _=>⟨_,bl,fun i hi=>by
  have hn0:0<P.n:=ae;simp only[gq hn0];by_cases e:i=row
  ·subst e;simp only[aN.aF,TM.ng,if_true];exact⟨fl ae (gO (hl i hi).1),gO (fl ae (hl i hi).2)⟩
  ·simp only[aN.aF,TM.ng,if_neg e];refine⟨fl ae (fl ae ?_),fl ae (fl ae (hl i hi).2)⟩;have:=(hl i hi).1;rwa[kT ae] at this⟩
 oth:=fun _=>⟨_,bo,fun j hj=>by
  by_cases e:j=at_
  ·subst e;simp only[aN.aF,if_true];exact gO (ho j hj)
  ·simp only[aN.aF,if_neg e];exact fl (Ne.symm e) (ho j hj)⟩
 wor:=fun _=>⟨CW,bw,hw⟩
 kl:=fun _ i hi=>by
  by_cases e:i=row
  ·subst e;simp only[aN.aF,TM.ng,if_true];exact⟨CY,bz,hz⟩
  ·simp only[aN.aF,TM.ng,if_neg e];obtain⟨C,a,b⟩:=hf i hi;exact⟨C,a,fun j hj=>by have:C[j]?=some (.string (qs (pf T row at_ k i j))):=b j hj;rwa[kR ae] at this⟩
 inj:=fun _ i i' hi hi' e=>by
  simp only[TM.ng] at e;split at e <;> split at e
  ·omega
  ·exact absurd e.symm (zn i' hi')
  ·exact absurd e (zn i hi)
  ·exact inj i i' hi hi' e
 fw:=fun _ i hi=>by
  simp only[TM.ng];split
  ·exact zw
  ·exact fw i hi
 bo:=fun _ _=>hbo
end
theorem Cs(P:LP)(T:aN)(p:Nat)(M:TM)(row at_ q:Nat)(X w:World)(g:Gd X)(hX:Ext X w)(xl:∀ k,M.S p P.m k->X.heap.size<=k)(hT:rj P T p M w)(hr:row<P.m)(ha:at_<P.n)(hk0:T.f row at_≠0)(hn:P.n<=1000)(hm:P.m<=1000)(hq1:1<=q)(hq2:q<=400)(qc:∀ i,i<P.m->QB q (T.c i))(qf:∀ i,i<P.m->∀ j,j<P.n->QB q (T.f i j))(qwc:QB q T.wc)(qw:∀ j,j<P.n->QB q (T.wf j)):Calls prog 200 #[.pointer (some ⟨p,0,none⟩),.int .i64 (row:Int),.int .i64 (at_:Int)] w (fun e w'=>e = .returned (.tuple #[])/\Mv X w (M.S p P.m) w'/\∃ kz,w.heap.size<=kz/\rj P (T.aF row at_) p (M.ng row kz P.n) w'):=by
 have HG:=ai g;have HK:=ai hk0;have HR:=ai hr;have HA:=ai ha;have HQc:=ai qc;have HQf:=ai qf;have HQwc:=ai qwc;have HQw:=ai qw;clear g hk0 hr ha qc qf qwc qw;have hm0:0<P.m:=by have:=HR.o;omega
 have hn0:0<P.n:=by have:=HA.o;omega
 obtain⟨CP,b1,c1⟩:=hT.tab;obtain⟨CB,b2,c2⟩:=hT.jL hm0;obtain⟨CL,b3,c3⟩:=hT.lin hm0;obtain⟨CO,b4,c4⟩:=hT.oth hn0;obtain⟨CW,b5,c5⟩:=hT.wor hn0;have hfac:=hT.kl hn0;simp only[rk,gq hm0,gq hn0] at c1;simp only[Bv,gq hn0] at c3;have HCAP:=ai hT.caps;have HBp:=ai b1;have HP0:Hid (_/\_/\_/\_/\_/\_):=ai c1;have HBb:=ai b2;have HCB:=ai c2;have HBl:=ai b3;have HCL:=ai c3;have HBo:=ai b4;have HCO:=ai c4;have HBw:=ai b5;have HCW:=ai c5;have HBF:=ai hfac;have HINJ:=ai (hT.inj hn0);have HFW:=ai (hT.fw hn0);have HN7:=ai (hT.bo hm0 hn0);have HN1:=ai (b1.ne b2 af);have HN2:=ai (b1.ne b3 af);have HN3:=ai (b1.ne b4 af);have HN4:=ai (b1.ne b5 af);have HN6:=ai (b2.ne b3 af);have HN8:=ai (b2.ne b5 af);have HN10:=ai (b3.ne b4 af);have HN11:=ai (b3.ne b5 af);have HN13:=ai (b4.ne b5 af);have HFP:Hid (∀ i,i<P.m->M.fb i≠p):=ai (fun i hi=>let ⟨_,b,_⟩:=hfac i hi;b.ne b1 af);have HFBB:Hid (∀ i,i<P.m->M.fb i≠M.bb):=ai (fun i hi=>let ⟨_,b,_⟩:=hfac i hi;b.ne b2 af);have HFL:Hid (∀ i,i<P.m->M.fb i≠M.lb):=ai (fun i hi=>let ⟨_,b,_⟩:=hfac i hi;b.ne b3 af);have HFO:Hid (∀ i,i<P.m->M.fb i≠M.ob):=ai (fun i hi=>let ⟨_,b,_⟩:=hfac i hi;b.ne b4 af);have HFLT:Hid (∀ i,i<P.m->M.fb i<w.heap.size):=ai (fun i hi=>let ⟨_,b,_⟩:=hfac i hi;b.lt);have HX0:Hid (Mv X w (M.S p P.m) w):=ai (Mv.refl hX xl);have HLO:Hid (X.heap.size<=p/\X.heap.size<=M.bb/\X.heap.size<=M.lb/\X.heap.size<=M.ob/\X.heap.size<=M.wb/\∀ i,i<P.m->X.heap.size<=M.fb i):=ai ⟨xl _ (Or.inl rfl),xl _ (Or.inr (Or.inl rfl)),xl _ (Or.inr (Or.inr (Or.inl rfl))),xl _ (Or.inr (Or.inr (Or.inr (Or.inl rfl)))),xl _ (Or.inr (Or.inr (Or.inr (Or.inr (Or.inl rfl))))),fun i hi=>xl _ (Or.inr (Or.inr (Or.inr (Or.inr (Or.inr ⟨i,hi,rfl⟩)))))⟩;have HQb:Hid (QB (q+q) (T.kx row at_)):=ai ((HQc.o row HR.o).neg.div (HQf.o row HR.o at_ HA.o) hq1);have HQbf:Hid (∀ j,j<P.n->QB (q+q) (T.jK row at_ j)):=ai (fun j hj=>QB.div (by split;exact(F6.neg.mono hq1).neg;exact(HQf.o row HR.o j hj).neg) (HQf.o row HR.o at_ HA.o) hq1);have hr2:(row:Int)<(P.m:Int):=by have:=HR.o;omega
 have ha2:(at_:Int)<(P.n:Int):=by have:=HA.o;omega
 clear hfac hm0 hn0 hX xl hT b1 b2 b3 b4 b5 c1 c2 c3 c4 c5;go_enter func200,ntmps200;have cp_2:=HBp.o.cell (2) HP0.o.2.2.1;have cl_row___2:=HBl.o.cell (row*2) ((HCL.o row HR.o).1);have cl_row___2___1:=HBl.o.cell (row*2+1) ((HCL.o row HR.o).2);go_upto_region 1 with fail
 refine aw (fun W=>Mv X w (M.S p P.m) W/\aq W (p) (CP) 185/\aq W (M.bb) (CB) 3/\aq W (M.lb) (CL) 182/\aq W (M.ob) (CO) 3/\aq W (M.wb) (CW) 34/\jN W M.fb P.m P.n (fun i j => .string (qs (T.f i j))) 34/\aq W (w.heap.size) (#[.string (qs (T.c row)),.slice (some ⟨M.fb row,0,none⟩) P.n (M.fc row)]) 182) ⟨(HX0.o.alloc _),(HBp.o.alloc _),(HBb.o.alloc _),(HBl.o.alloc _),(HBo.o.alloc _),(HBw.o.alloc _),(HBF.o.alloc _),(aq.nw (#[.string (qs (T.c row)),.slice (some ⟨M.fb row,0,none⟩) P.n (M.fc row)]) 182)⟩ ?_;rintro w1 ⟨e1,bBp_1,bBb_1,bBl_1,bBo_1,bBw_1,bBF_1,bB0_1⟩;have HX1:=ai e1;have HBp_1:=ai bBp_1;have HBb_1:=ai bBb_1;have HBl_1:=ai bBl_1;have HBo_1:=ai bBo_1;have HBw_1:=ai bBw_1;have HBF_1:=ai bBF_1;have HB0_1:=ai bB0_1;have HGEB0:Hid (w.heap.size<=w.heap.size):=ai (Nat.le_refl _);clear e1 bBp_1 bBb_1 bBl_1 bBo_1 bBw_1 bBF_1 bB0_1 cp_2 cl_row___2 cl_row___2___1;have c0_1:=HB0_1.o.cell 1 rfl;have cF_row_at_:=HBF_1.o.cell (HR.o) (HA.o);have cp_3:=HBp_1.o.cell (3) HP0.o.2.2.2.1;go_wp2_with fail;refine(gL P.n ae _).mono ?_;rintro e w2 ⟨kz,CZ,rfl,e2,g_,b_,c_⟩;have HNBpBz:Hid (p≠kz):=ai (Nat.ne_of_lt (Nat.lt_of_lt_of_le HBp_1.o.lt g_));have HNBbBz:Hid (M.bb≠kz):=ai (Nat.ne_of_lt (Nat.lt_of_lt_of_le HBb_1.o.lt g_));have HNBlBz:Hid (M.lb≠kz):=ai (Nat.ne_of_lt (Nat.lt_of_lt_of_le HBl_1.o.lt g_));have HNBoBz:Hid (M.ob≠kz):=ai (Nat.ne_of_lt (Nat.lt_of_lt_of_le HBo_1.o.lt g_));have HNBwBz:Hid (M.wb≠kz):=ai (Nat.ne_of_lt (Nat.lt_of_lt_of_le HBw_1.o.lt g_));have HNB0Bz:Hid (w.heap.size≠kz):=ai (Nat.ne_of_lt (Nat.lt_of_lt_of_le HB0_1.o.lt g_));have HGEBz:Hid (w.heap.size<=kz):=ai (Nat.le_trans HX1.o.size g_);have HX2:=ai (HX1.o.trans e2);have HBp_2:=ai (HBp_1.o.ext e2);have HBb_2:=ai (HBb_1.o.ext e2);have HBl_2:=ai (HBl_1.o.ext e2);have HBo_2:=ai (HBo_1.o.ext e2);have HBw_2:=ai (HBw_1.o.ext e2);have HBF_2:=ai (HBF_1.o.ext e2);have HB0_2:=ai (HB0_1.o.ext e2);clear e2 c0_1 cF_row_at_ cp_3;have HBz_2:=ai b_;have HCBz:=ai c_;clear g_ b_ c_;go_upto_region 3 with fail
 refine aw (fun W=>Mv X w (M.S p P.m) W/\aq W (p) (CP) 185/\aq W (M.bb) (CB) 3/\aq W (M.lb) (CL) 182/\aq W (M.ob) (CO) 3/\aq W (M.wb) (CW) 34/\jN W M.fb P.m P.n (fun i j => .string (qs (T.f i j))) 34/\aq W (w.heap.size) (#[.string (qs (T.c row)),.slice (some ⟨M.fb row,0,none⟩) P.n (M.fc row)]) 182/\aq W (kz) (CZ) 34/\aq W (w2.heap.size) (#[.string ⟨#[]⟩,.slice (some ⟨kz,0,none⟩) P.n P.n]) 182) ⟨(HX2.o.alloc _),(HBp_2.o.alloc _),(HBb_2.o.alloc _),(HBl_2.o.alloc _),(HBo_2.o.alloc _),(HBw_2.o.alloc _),(HBF_2.o.alloc _),(HB0_2.o.alloc _),(HBz_2.o.alloc _),(aq.nw (#[.string ⟨#[]⟩,.slice (some ⟨kz,0,none⟩) P.n P.n]) 182)⟩ ?_;rintro w3 ⟨e3,bBp_3,bBb_3,bBl_3,bBo_3,bBw_3,bBF_3,bB0_3,bBz_3,bB1_3⟩;have HX3:=ai e3;have HBp_3:=ai bBp_3;have HBb_3:=ai bBb_3;have HBl_3:=ai bBl_3;have HBo_3:=ai bBo_3;have HBw_3:=ai bBw_3;have HBF_3:=ai bBF_3;have HB0_3:=ai bB0_3;have HBz_3:=ai bBz_3;have HB1_3:=ai bB1_3;have HGEB1:Hid (w.heap.size<=w2.heap.size):=ai (HX2.o.size);clear e3 bBp_3 bBb_3 bBl_3 bBo_3 bBw_3 bBF_3 bB0_3 bBz_3 bB1_3;have c0_0:=HB0_3.o.cell 0 rfl;go_wp2_with fail;refine cto (b8 (T.c row) _ (HQc.o row HR.o) ae) fun w4 e4=>?_
 have HX4:=ai (HX3.o.trans e4);have HBp_4:=ai (HBp_3.o.ext e4);have HBb_4:=ai (HBb_3.o.ext e4);have HBl_4:=ai (HBl_3.o.ext e4);have HBo_4:=ai (HBo_3.o.ext e4);have HBw_4:=ai (HBw_3.o.ext e4);have HBF_4:=ai (HBF_3.o.ext e4);have HB0_4:=ai (HB0_3.o.ext e4);have HBz_4:=ai (HBz_3.o.ext e4);have HB1_4:=ai (HB1_3.o.ext e4);clear e4 c0_0;go_wp2_with fail;refine cto (kJ (-T.c row) (T.f row at_) _ (HG.o.ext (HX4.o.ext)) (HQc.o row HR.o).neg (HQf.o row HR.o at_ HA.o) ae ae ae HK.o) fun w5 e5=>?_
 have HX5:=ai (HX4.o.trans e5);have HBp_5:=ai (HBp_4.o.ext e5);have HBb_5:=ai (HBb_4.o.ext e5);have HBl_5:=ai (HBl_4.o.ext e5);have HBo_5:=ai (HBo_4.o.ext e5);have HBw_5:=ai (HBw_4.o.ext e5);have HBF_5:=ai (HBF_4.o.ext e5);have HB0_5:=ai (HB0_4.o.ext e5);have HBz_5:=ai (HBz_4.o.ext e5);have HB1_5:=ai (HB1_4.o.ext e5);clear e5;have c1_0:=HB1_5.o.cell 0 rfl;have f1_0:=HB1_5.o.free 0;go_upto_region 4 with fail
 refine aw (fun W=>Mv X w (M.S p P.m) W/\aq W (p) (CP) 185/\aq W (M.bb) (CB) 3/\aq W (M.lb) (CL) 182/\aq W (M.ob) (CO) 3/\aq W (M.wb) (CW) 34/\jN W M.fb P.m P.n (fun i j => .string (qs (T.f i j))) 34/\aq W (w.heap.size) (#[.string (qs (T.c row)),.slice (some ⟨M.fb row,0,none⟩) P.n (M.fc row)]) 182/\aq W (kz) (CZ) 34/\aq W (w2.heap.size) (#[.string (qs (-T.c row / T.f row at_)),.slice (some ⟨kz,0,none⟩) P.n P.n]) 182) ⟨(HX5.o.setCell (Or.inr (HGEB1.o)) _),(HBp_5.o.other (a:=⟨w2.heap.size,0,none⟩) _ (by have:=HBp_2.o.lt;first|omega|(simp only[];omega)|(simp;omega))),(HBb_5.o.other (a:=⟨w2.heap.size,0,none⟩) _ (by have:=HBb_2.o.lt;first|omega|(simp only[];omega)|(simp;omega))),(HBl_5.o.other (a:=⟨w2.heap.size,0,none⟩) _ (by have:=HBl_2.o.lt;first|omega|(simp only[];omega)|(simp;omega))),(HBo_5.o.other (a:=⟨w2.heap.size,0,none⟩) _ (by have:=HBo_2.o.lt;first|omega|(simp only[];omega)|(simp;omega))),(HBw_5.o.other (a:=⟨w2.heap.size,0,none⟩) _ (by have:=HBw_2.o.lt;first|omega|(simp only[];omega)|(simp;omega))),(HBF_5.o.other (a:=⟨w2.heap.size,0,none⟩) _ ((dN HFLT.o (show w.heap.size<=w2.heap.size from HGEB1.o)))),(HB0_5.o.other (a:=⟨w2.heap.size,0,none⟩) _ (Nat.ne_of_lt HB0_2.o.lt)),(HBz_5.o.other (a:=⟨w2.heap.size,0,none⟩) _ (by have:=HBz_2.o.lt;first|omega|(simp only[];omega)|(simp;omega))),(HB1_5.o.set 0 (.string (qs (-T.c row / T.f row at_))))⟩ ?_;rintro w6 ⟨e6,bBp_6,bBb_6,bBl_6,bBo_6,bBw_6,bBF_6,bB0_6,bBz_6,bB1_6⟩;have HX6:=ai e6;have HBp_6:=ai bBp_6;have HBb_6:=ai bBb_6;have HBl_6:=ai bBl_6;have HBo_6:=ai bBo_6;have HBw_6:=ai bBw_6;have HBF_6:=ai bBF_6;have HB0_6:=ai bB0_6;have HBz_6:=ai bBz_6;have HB1_6:=ai bB1_6;clear e6 bBp_6 bBb_6 bBl_6 bBo_6 bBw_6 bBF_6 bB0_6 bBz_6 bB1_6 c1_0 f1_0;have c0_1:=HB0_6.o.cell 1 rfl;go_wp2_with fail;clear c0_1;go_wp2_with fail;go_loopw [43] (fun x0_ wx=>∃ k:Nat,x0_ = .int .i64 k/\k<=P.n/\Hid (Mv X w6 (fun q=>q=kz) wx/\∃ CK,aq wx kz CK 34/\∀ j,j<P.n->CK[j]?=some (.string (qs (if j<k then T.jK row at_ j else 0))))) (fun x0_ _=>P.n-(intOf x0_).toNat)
 case atStart=>exact⟨0,rfl,Nat.zero_le _,ai ⟨Mv.refl HX6.o.ext (fun q h=>by rw[h];exact Nat.le_trans HX6.o.base HGEBz.o),_,HBz_6.o,fun j hj=>by rw[if_neg (Nat.not_lt_zero _),bE];exact HCBz.o j hj⟩⟩
 case round =>
  rename World=>w7
  obtain⟨k,rfl,hk,HH⟩:=hrel;have HM7:=ai HH.o.1;obtain⟨CK,a1_,a2_⟩:=HH.o.2;have HBz_7:=ai a1_;have HCK:=ai a2_;clear a1_ a2_ HH;have HBp_7:=ai (HM7.o.az HBp_6.o (fun h=>((show p≠kz from HNBpBz.o)) h));have HBb_7:=ai (HM7.o.az HBb_6.o (fun h=>((show M.bb≠kz from HNBbBz.o)) h));have HBl_7:=ai (HM7.o.az HBl_6.o (fun h=>((show M.lb≠kz from HNBlBz.o)) h));have HBo_7:=ai (HM7.o.az HBo_6.o (fun h=>((show M.ob≠kz from HNBoBz.o)) h));have HBw_7:=ai (HM7.o.az HBw_6.o (fun h=>((show M.wb≠kz from HNBwBz.o)) h));have HBF_7:=ai (HBF_6.o.mv HM7.o (fun i hi h=>(((dN HFLT.o (show w.heap.size<=kz from HGEBz.o))) i hi) h));have HB0_7:=ai (HM7.o.az HB0_6.o (fun h=>((show w.heap.size≠kz from HNB0Bz.o)) h));have HB1_7:=ai (HM7.o.az HB1_6.o (fun h=>((show w2.heap.size≠kz from by have:=HBz_2.o.lt;first|omega|(simp only[];omega)|(simp;omega))) h));have HX7:Hid (Mv X w (M.S p P.m) w7):=ai (HX6.o.comp HM7.o (fun q h=>by rw[h];exact(Or.inr HGEBz.o)));by_cases hlt:k<P.n
  ·have hlt2:(k:Int)<(P.n:Int):=ae;have zk_:=HCK.o k hlt;rw[if_neg ae] at zk_;have HZk:=ai zk_;clear zk_;by_cases hj:k=at_
   ·have hj2:((k:Int) == (at_:Int))=true:=by simp;omega
    have HJ:=ai hj;clear hj;have cF_row_k:=HBF_7.o.cell (HR.o) (hlt);go_wp2_with fail;clear cF_row_k;refine ay [.val (.pointer (some ⟨w2.heap.size,1,none⟩)),.val (.slice (some ⟨kz,0,none⟩) P.n P.n),.val (.int .i64 (k:Int)),.val (.string ⟨#[45,49]⟩),.val (.string (qs (1:Rat))),.val (.string (qs (T.f row at_))),.val (.tuple #[.string (qs ((1:Rat) / T.f row at_)),.int .i64 0]),.val (.tuple #[.string (qs ((1:Rat) / T.f row at_)),.int .i64 0]),.val (.string (qs ((1:Rat) / T.f row at_))),.val (.int .i64 0),.val (.pointer (some ⟨kz,k,none⟩)),.aR] (fun L g W=>(if L 11=true then aq W (kz) ((CK).setIfInBounds k (.string (qs ((1:Rat) / T.f row at_)))) 34 else aq W (kz) (CK) 34)) (S:=fun k=>k=kz) ag ag ag (Mv.refl HX7.o.ext (fun k h=>(fun e=>Nat.le_trans (HX7.o.le (Or.inr HGEBz.o)) (Nat.le_of_eq e.symm)) h)) ?_ ?_ ?_ ?_ (fun gv_ w8 hm_ he_=>?_)
    ·exact fun gz_=>(by rw[if_neg af];exact HBz_7.o.drew)
    ·exact fun L g W W1 h e=>aZ (h) (fun h=>h.ext e) (fun h=>h.ext e)
    ·intro i v L g W hi h;have n11_:i≠11:=fun e=>by subst e;exact absurd (show false=true from hi) af
     simp only[au n11_,av n11_];exact h
    ·skip
     refine RI 8 (.pointer (some ⟨w2.heap.size,0,none⟩))<|J2 (fun hs_=>hs_.val 0) (fun hs_=>(hs_.mv.az HB1_7.o (fun h=>((show w2.heap.size≠kz from by have:=HBz_2.o.lt;first|omega|(simp only[];omega)|(simp;omega))) h)).cell 1 rfl)<|RI 9 (.int .i64 (k:Int))<|RI 10 (.string ⟨#[45,49]⟩)<|K1 (fun hs_=>hs_.val 3) (fun _=>Cc _)<|RI 7 (.string (qs (T.f row at_)))<|K2 (fun hs_=>hs_.val 4) (fun hs_=>hs_.val 5) (fun hs_=>kJ (1:Rat) (T.f row at_) _ (HG.o.ext hs_.mv.ext) F6 (HQf.o row HR.o at_ HA.o) ae ae ae HK.o)<|R1 6<|R1 7<|R1 7<|R2 1 2 ?_;refine aA.cons (fun L_ g_ A_ W_ hs_=>?_) ?_
     ·have q61_:=hs_.val 10;have q59_:=hs_.val 8;refine cI.aR fun K_ hK_=>?_;have n_:=hs_.not;have e_:=hs_.e;rw[if_neg (by rw[n_];decide)] at e_;have c_0:=e_.cell (k) HZk.o;have f_0:=e_.free k;have HE_:=ai e_;have HM_:=ai hs_.mv;have HEE_:=ai hs_.e;clear e_ n_;go_simp;exact hK_.o undef _ (HM_.o.setCell (Or.inl (rfl)) _) (by rw[aM,if_pos rfl];exact(HE_.o.set k _))
     exact aA.nil
    simp only[dD,Ke.value,aX,Act.put,List.setIfInBounds_toArray,List.set_cons_zero,List.set_cons_succ];have HX8:=ai (HX7.o.comp hm_ (fun k h=>(fun e=>(by rw[e];exact(Or.inr HGEBz.o))) h));have HBp_8:=ai (hm_.az HBp_7.o (fun h=>((show p≠kz from HNBpBz.o)) h));have HBb_8:=ai (hm_.az HBb_7.o (fun h=>((show M.bb≠kz from HNBbBz.o)) h));have HBl_8:=ai (hm_.az HBl_7.o (fun h=>((show M.lb≠kz from HNBlBz.o)) h));have HBo_8:=ai (hm_.az HBo_7.o (fun h=>((show M.ob≠kz from HNBoBz.o)) h));have HBw_8:=ai (hm_.az HBw_7.o (fun h=>((show M.wb≠kz from HNBwBz.o)) h));have HBF_8:=ai (HBF_7.o.mv hm_ (fun i hi h=>(((dN HFLT.o (show w.heap.size<=kz from HGEBz.o))) i hi) h));have HB0_8:=ai (hm_.az HB0_7.o (fun h=>((show w.heap.size≠kz from HNB0Bz.o)) h));have HBz_8:Hid (aq w8 (kz) ((CK).setIfInBounds k (.string (qs ((1:Rat) / T.f row at_)))) 34):=ai (by have h_:=he_;rw[if_pos rfl] at h_;exact h_);have HB1_8:=ai (hm_.az HB1_7.o (fun h=>((show w2.heap.size≠kz from by have:=HBz_2.o.lt;first|omega|(simp only[];omega)|(simp;omega))) h));have HMR:=ai hm_;clear hm_ he_;go_wp2_with fail;go_roundw
    case rel=>exact⟨k+1,by go_num,ae,ai ⟨HM7.o.comp HMR.o (fun q h=>Or.inl h),_,HBz_8.o,tu HCK.o hlt (by rw[aN.jK,if_pos HJ.o];grind)⟩⟩
    case measure=>simp[intOf];omega
   ·have hj2:((k:Int) == (at_:Int))=false:=by simp;omega
    have HJ:=ai hj;clear hj;have cF_row_k:=HBF_7.o.cell (HR.o) (hlt);go_wp2_with fail;clear cF_row_k;refine ay [.val (.pointer (some ⟨w2.heap.size,1,none⟩)),.val (.slice (some ⟨kz,0,none⟩) P.n P.n),.val (.int .i64 (k:Int)),.val (.string (qs (T.f row k))),.val (.string (qs (-T.f row k))),.val (.string (qs (T.f row at_))),.val (.tuple #[.string (qs (-T.f row k / T.f row at_)),.int .i64 0]),.val (.tuple #[.string (qs (-T.f row k / T.f row at_)),.int .i64 0]),.val (.string (qs (-T.f row k / T.f row at_))),.val (.int .i64 0),.val (.pointer (some ⟨kz,k,none⟩)),.aR] (fun L g W=>(if L 11=true then aq W (kz) ((CK).setIfInBounds k (.string (qs (-T.f row k / T.f row at_)))) 34 else aq W (kz) (CK) 34)) (S:=fun k=>k=kz) ag ag ag (Mv.refl HX7.o.ext (fun k h=>(fun e=>Nat.le_trans (HX7.o.le (Or.inr HGEBz.o)) (Nat.le_of_eq e.symm)) h)) ?_ ?_ ?_ ?_ (fun gv_ w8 hm_ he_=>?_)
    ·exact fun gz_=>(by rw[if_neg af];exact HBz_7.o.drew)
    ·exact fun L g W W1 h e=>aZ (h) (fun h=>h.ext e) (fun h=>h.ext e)
    ·intro i v L g W hi h;have n11_:i≠11:=fun e=>by subst e;exact absurd (show false=true from hi) af
     simp only[au n11_,av n11_];exact h
    ·skip
     refine RI 8 (.pointer (some ⟨w2.heap.size,0,none⟩))<|J2 (fun hs_=>hs_.val 0) (fun hs_=>(hs_.mv.az HB1_7.o (fun h=>((show w2.heap.size≠kz from by have:=HBz_2.o.lt;first|omega|(simp only[];omega)|(simp;omega))) h)).cell 1 rfl)<|RI 9 (.int .i64 (k:Int))<|RI 10 (.string (qs (T.f row k)))<|K1 (fun hs_=>hs_.val 3) (fun _=>b8 (T.f row k) _ (HQf.o row HR.o k hlt) ae)<|RI 7 (.string (qs (T.f row at_)))<|K2 (fun hs_=>hs_.val 4) (fun hs_=>hs_.val 5) (fun hs_=>kJ (-T.f row k) (T.f row at_) _ (HG.o.ext hs_.mv.ext) (HQf.o row HR.o k hlt).neg (HQf.o row HR.o at_ HA.o) ae ae ae HK.o)<|R1 6<|R1 7<|R1 7<|R2 1 2 ?_;refine aA.cons (fun L_ g_ A_ W_ hs_=>?_) ?_
     ·have q61_:=hs_.val 10;have q59_:=hs_.val 8;refine cI.aR fun K_ hK_=>?_;have n_:=hs_.not;have e_:=hs_.e;rw[if_neg (by rw[n_];decide)] at e_;have c_0:=e_.cell (k) HZk.o;have f_0:=e_.free k;have HE_:=ai e_;have HM_:=ai hs_.mv;have HEE_:=ai hs_.e;clear e_ n_;go_simp;exact hK_.o undef _ (HM_.o.setCell (Or.inl (rfl)) _) (by rw[aM,if_pos rfl];exact(HE_.o.set k _))
     exact aA.nil
    simp only[dD,Ke.value,aX,Act.put,List.setIfInBounds_toArray,List.set_cons_zero,List.set_cons_succ];have HX8:=ai (HX7.o.comp hm_ (fun k h=>(fun e=>(by rw[e];exact(Or.inr HGEBz.o))) h));have HBp_8:=ai (hm_.az HBp_7.o (fun h=>((show p≠kz from HNBpBz.o)) h));have HBb_8:=ai (hm_.az HBb_7.o (fun h=>((show M.bb≠kz from HNBbBz.o)) h));have HBl_8:=ai (hm_.az HBl_7.o (fun h=>((show M.lb≠kz from HNBlBz.o)) h));have HBo_8:=ai (hm_.az HBo_7.o (fun h=>((show M.ob≠kz from HNBoBz.o)) h));have HBw_8:=ai (hm_.az HBw_7.o (fun h=>((show M.wb≠kz from HNBwBz.o)) h));have HBF_8:=ai (HBF_7.o.mv hm_ (fun i hi h=>(((dN HFLT.o (show w.heap.size<=kz from HGEBz.o))) i hi) h));have HB0_8:=ai (hm_.az HB0_7.o (fun h=>((show w.heap.size≠kz from HNB0Bz.o)) h));have HBz_8:Hid (aq w8 (kz) ((CK).setIfInBounds k (.string (qs (-T.f row k / T.f row at_)))) 34):=ai (by have h_:=he_;rw[if_pos rfl] at h_;exact h_);have HB1_8:=ai (hm_.az HB1_7.o (fun h=>((show w2.heap.size≠kz from by have:=HBz_2.o.lt;first|omega|(simp only[];omega)|(simp;omega))) h));have HMR:=ai hm_;clear hm_ he_;go_wp2_with fail;go_roundw
    case rel=>exact⟨k+1,by go_num,ae,ai ⟨HM7.o.comp HMR.o (fun q h=>Or.inl h),_,HBz_8.o,tu HCK.o hlt (by rw[aN.jK,if_neg HJ.o])⟩⟩
    case measure=>simp[intOf];omega
  ·have hk2:k=P.n:=ae;have hge:¬ (k:Int)<(P.n:Int):=ae;have HCY:Hid (∀ j,j<P.n->CK[j]?=some (.string (qs (T.jK row at_ j)))):=ai (fun j hj=>by have:=HCK.o j hj;rwa[if_pos ae] at this);clear HCK;have cp_2:=HBp_7.o.cell (2) HP0.o.2.2.1;go_wp2_with fail;clear cp_2;go_wp2_with fail;go_loopw [68] (fun x0_ wx=>∃ k2:Nat,x0_ = .int .i64 k2/\k2<=P.m/\Hid (Mv X w7 (fun q=>q=M.lb∨∃ i,i<P.m/\q=M.fb i) wx/\(∃ CK2,aq wx M.lb CK2 182/\rm P T M row at_ k2 CK2)/\jN wx M.fb P.m P.n (fun i j => .string (qs (pf T row at_ k2 i j))) 34)) (fun x0_ _=>P.m-(intOf x0_).toNat)
   case atStart=>exact⟨0,rfl,Nat.zero_le _,ai ⟨Mv.refl HX7.o.ext (fun q h=>HX7.o.low q ((fun q h=>h.elim (fun e=>Or.inr (Or.inr (Or.inl e))) (fun e=>Or.inr (Or.inr (Or.inr (Or.inr (Or.inr e)))))) q h)),⟨_,HBl_7.o,rm.start HCL.o⟩,PvF.start HBF_7.o⟩⟩
   case round =>
    rename World=>w8
    obtain⟨k2,rfl,hkm,HH⟩:=hrel;have HM8:=ai HH.o.1;obtain⟨CK2,a1_,a2_⟩:=HH.o.2.1;have HBl_8:=ai a1_;have HCK:=ai a2_;have HFK:=ai HH.o.2.2;clear a1_ a2_ HH;have HBp_8:=ai (HM8.o.az HBp_7.o (fun h=>h.elim ((show p≠M.lb from HN2.o)) (fun h2=>(fun⟨i,hi,e⟩=>HFP.o i hi (e.symm)) h2)));have HBb_8:=ai (HM8.o.az HBb_7.o (fun h=>h.elim ((show M.bb≠M.lb from HN6.o)) (fun h2=>(fun⟨i,hi,e⟩=>HFBB.o i hi (e.symm)) h2)));have HBo_8:=ai (HM8.o.az HBo_7.o (fun h=>h.elim ((show M.ob≠M.lb from fun h=>HN10.o h.symm)) (fun h2=>(fun⟨i,hi,e⟩=>HFO.o i hi (e.symm)) h2)));have HBw_8:=ai (HM8.o.az HBw_7.o (fun h=>h.elim ((show M.wb≠M.lb from fun h=>HN11.o h.symm)) (fun h2=>(fun⟨i,hi,e⟩=>HFW.o i hi (e.symm)) h2)));have HB0_8:=ai (HM8.o.az HB0_7.o (fun h=>h.elim ((show w.heap.size≠M.lb from by have:=HBl.o.lt;first|omega|(simp only[];omega)|(simp;omega))) (fun h2=>(fun⟨i,hi,e⟩=>(dN HFLT.o (show w.heap.size<=w.heap.size from HGEB0.o)) i hi (e.symm)) h2)));have HBz_8:=ai (HM8.o.az HBz_7.o (fun h=>h.elim ((show kz≠M.lb from fun h=>HNBlBz.o h.symm)) (fun h2=>(fun⟨i,hi,e⟩=>(dN HFLT.o (show w.heap.size<=kz from HGEBz.o)) i hi (e.symm)) h2)));have HB1_8:=ai (HM8.o.az HB1_7.o (fun h=>h.elim ((show w2.heap.size≠M.lb from by have:=HBl_2.o.lt;first|omega|(simp only[];omega)|(simp;omega))) (fun h2=>(fun⟨i,hi,e⟩=>(dN HFLT.o (show w.heap.size<=w2.heap.size from HGEB1.o)) i hi (e.symm)) h2)));have HX8:Hid (Mv X w (M.S p P.m) w8):=ai (HX7.o.comp HM8.o (fun q h=>Or.inl ((fun q h=>h.elim (fun e=>Or.inr (Or.inr (Or.inl e))) (fun e=>Or.inr (Or.inr (Or.inr (Or.inr (Or.inr e)))))) q h)));by_cases hlt:k2<P.m
    ·have hlt2:(k2:Int)<(P.m:Int):=ae;by_cases hj:k2=row
     ·have hj2:((k2:Int) != (row:Int))=false:=by simp;omega
      have HJ:=ai hj;clear hj;go_wp2_with fail;go_roundw
      case rel=>exact⟨k2+1,by go_num,ae,ai ⟨HM8.o,⟨_,HBl_8.o,rm.skip HJ.o HCK.o⟩,PvF.skip HJ.o HFK.o⟩⟩
      case measure=>simp[intOf];omega
     ·have hj2:((k2:Int) != (row:Int))=true:=by simp;omega
      have HJ:=ai hj;clear hj;obtain⟨CG,g1_,g2_⟩:=PvF.Hk HFK.o hlt;have HBg:=ai g1_;have HCG:=ai g2_;clear g1_ g2_;have HL0_:=ai (rm.now HCK.o hlt);have HL1_:=ai (HCK.o k2 hlt).2;go_wp2_with fail;refine ay [.val (.pointer (some ⟨p,0,none⟩)),.val (.pointer (some ⟨p,0,none⟩)),.val (.pointer (some ⟨p,2,none⟩)),.val (.slice (some ⟨M.lb,0,none⟩) P.m M.lc),.val (.int .i64 (k2:Int)),.val (.pointer (some ⟨M.lb,k2*2,none⟩)),.val (.int .i64 (at_:Int)),.val (.agg #[.string (qs (-T.c row / T.f row at_)),.slice (some ⟨kz,0,none⟩) P.n P.n]),.ev (.tuple #[])] (fun L g W=>(if L 8=true then ∃ LD,aq W M.lb LD 182/\LD[k2*2]?=some (.string (qs (T.c k2+T.f k2 at_*T.kx row at_)))/\(∀ i,i≠k2*2->LD[i]?=CK2[i]?)/\∃ FD,aq W (M.fb k2) FD 34/\∀ j,j<P.n->FD[j]?=some (.string (qs ((if j=at_ then 0 else T.f k2 j)+T.f k2 at_*T.jK row at_ j))) else aq W M.lb CK2 182/\aq W (M.fb k2) CG 34)) (S:=fun k=>k=M.lb∨k=M.fb k2) ag ag ag (Mv.refl HX8.o.ext (fun k h=>h.elim (fun e=>Nat.le_trans (HX8.o.le (Or.inl (Or.inr (Or.inr (Or.inl rfl))))) (Nat.le_of_eq e.symm)) (fun h2=>(fun e=>Nat.le_trans (HX8.o.le (Or.inl (Or.inr (Or.inr (Or.inr (Or.inr (Or.inr ⟨k2,hlt,rfl⟩))))))) (Nat.le_of_eq e.symm)) h2))) ?_ ?_ ?_ ?_ (fun gv_ w9 hm_ he_=>?_)
      ·exact fun gz_=>(by rw[if_neg af];exact⟨HBl_8.o.drew,HBg.o.drew⟩)
      ·exact fun L g W W1 h e=>aZ (h) (fun⟨LD,b1,b2,b3,FD,b4,b5⟩=>⟨LD,b1.ext e,b2,b3,FD,b4.ext e,b5⟩) (fun h=>⟨h.1.ext e,h.2.ext e⟩)
      ·intro i v L g W hi h;have n8_:i≠8:=fun e=>by subst e;exact absurd (show false=true from hi) af
       simp only[au n8_,av n8_];exact h
      ·skip
       refine RI 0 (.pointer (some ⟨p,0,none⟩))<|R1 0<|R1 1<|J2 (fun hs_=>hs_.val 2) (fun hs_=>(hs_.mv.az HBp_8.o (fun h=>h.elim ((show p≠M.lb from HN2.o)) (fun h2=>((show p≠M.fb k2 from fun h=>(HFP.o) k2 hlt h.symm)) h2))).cell (2) HP0.o.2.2.1)<|RI 11 (.int .i64 (k2:Int))<|R2 3 4<|RI 2 (.int .i64 (at_:Int))<|J3 (fun hs_=>hs_.is 8 (.pointer (some ⟨w2.heap.size,0,none⟩))) (fun hs_=>(hs_.mv.az HB1_8.o (fun h=>h.elim ((show w2.heap.size≠M.lb from by have:=HBl_2.o.lt;first|omega|(simp only[];omega)|(simp;omega))) (fun h2=>((show w2.heap.size≠M.fb k2 from fun h=>((dN HFLT.o (show w.heap.size<=w2.heap.size from HGEB1.o))) k2 hlt h.symm)) h2))).cell 0 rfl) (fun hs_=>(hs_.mv.az HB1_8.o (fun h=>h.elim ((show w2.heap.size≠M.lb from by have:=HBl_2.o.lt;first|omega|(simp only[];omega)|(simp;omega))) (fun h2=>((show w2.heap.size≠M.fb k2 from fun h=>((dN HFLT.o (show w.heap.size<=w2.heap.size from HGEB1.o))) k2 hlt h.symm)) h2))).cell 1 rfl) ?_;refine aA.cons (fun L_ g_ A_ W_ hs_=>?_) ?_
       ·have q79_:=hs_.val 5;have q80_:=hs_.val 6;have q81_:=hs_.val 7;refine cI.ev fun K_ hK_=>?_;have n_:=hs_.not;have e_:=hs_.e;rw[if_neg (by rw[n_];decide)] at e_;have HE_:=ai e_;have HM_:=ai hs_.mv;clear e_ n_;go_simp;refine(DM X M.lb (k2*2) (M.fb k2) (M.fc k2) P.n at_ kz P.n (q+q) (T.c k2) (T.kx row at_) (T.f k2) (T.jK row at_) CK2 CG CK 182 _ HG.o HM_.o.ext HLO.o.2.2.1 (HLO.o.2.2.2.2.2 k2 hlt) (fun h=>(HFL.o) k2 hlt h.symm) (fun h=>HNBlBz.o h.symm) (fun h=>((dN HFLT.o (show w.heap.size<=kz from HGEBz.o))) k2 hlt h.symm) HE_.o.1 HE_.o.2 (HM_.o.az HBz_8.o (fun h=>h.elim ((show kz≠M.lb from fun h=>HNBlBz.o h.symm)) (fun h2=>((show kz≠M.fb k2 from fun h=>((dN HFLT.o (show w.heap.size<=kz from HGEBz.o))) k2 hlt h.symm)) h2))) HL0_.o HL1_.o HCG.o HCY.o HA.o ae ae ae ((HQc.o k2 hlt).mono ae) HQb.o (fun j hj=>(HQf.o k2 hlt j hj).mono ae) HQbf.o).mono ?_;rintro e W9_ ⟨rfl,m9_,l9_⟩;exact hK_.o _ (HM_.o.comp m9_ (fun q h=>Or.inl h)) (by rw[aM,if_pos rfl];exact l9_)
       exact aA.nil
      simp only[dD,Ke.value,aX,Act.put,List.setIfInBounds_toArray,List.set_cons_zero,List.set_cons_succ];have HX9:=ai (HX8.o.comp hm_ (fun k h=>h.elim (fun e=>(by rw[e];exact(Or.inl (Or.inr (Or.inr (Or.inl rfl)))))) (fun h2=>(fun e=>(by rw[e];exact(Or.inl (Or.inr (Or.inr (Or.inr (Or.inr (Or.inr ⟨k2,hlt,rfl⟩)))))))) h2)));have HBp_9:=ai (hm_.az HBp_8.o (fun h=>h.elim ((show p≠M.lb from HN2.o)) (fun h2=>((show p≠M.fb k2 from fun h=>(HFP.o) k2 hlt h.symm)) h2)));have HBb_9:=ai (hm_.az HBb_8.o (fun h=>h.elim ((show M.bb≠M.lb from HN6.o)) (fun h2=>((show M.bb≠M.fb k2 from fun h=>(HFBB.o) k2 hlt h.symm)) h2)));have HBo_9:=ai (hm_.az HBo_8.o (fun h=>h.elim ((show M.ob≠M.lb from fun h=>HN10.o h.symm)) (fun h2=>((show M.ob≠M.fb k2 from fun h=>(HFO.o) k2 hlt h.symm)) h2)));have HBw_9:=ai (hm_.az HBw_8.o (fun h=>h.elim ((show M.wb≠M.lb from fun h=>HN11.o h.symm)) (fun h2=>((show M.wb≠M.fb k2 from fun h=>(HFW.o) k2 hlt h.symm)) h2)));have HB0_9:=ai (hm_.az HB0_8.o (fun h=>h.elim ((show w.heap.size≠M.lb from by have:=HBl.o.lt;first|omega|(simp only[];omega)|(simp;omega))) (fun h2=>((show w.heap.size≠M.fb k2 from fun h=>((dN HFLT.o (show w.heap.size<=w.heap.size from HGEB0.o))) k2 hlt h.symm)) h2)));have HBz_9:=ai (hm_.az HBz_8.o (fun h=>h.elim ((show kz≠M.lb from fun h=>HNBlBz.o h.symm)) (fun h2=>((show kz≠M.fb k2 from fun h=>((dN HFLT.o (show w.heap.size<=kz from HGEBz.o))) k2 hlt h.symm)) h2)));have HB1_9:=ai (hm_.az HB1_8.o (fun h=>h.elim ((show w2.heap.size≠M.lb from by have:=HBl_2.o.lt;first|omega|(simp only[];omega)|(simp;omega))) (fun h2=>((show w2.heap.size≠M.fb k2 from fun h=>((dN HFLT.o (show w.heap.size<=w2.heap.size from HGEB1.o))) k2 hlt h.symm)) h2)));have h_:=(he_);rw[if_pos rfl] at h_;obtain⟨LD,b1,b2,b3,FD,b4,b5⟩:=h_;have HBl_9:=ai b1;have HLD:=ai b2;have HLN:=ai b3;have HBg_9:=ai b4;have HFD:=ai b5;clear b1 b2 b3 b4 b5;have HMR:=ai hm_;clear hm_ he_;go_wp2_with fail;go_roundw
      case rel=>exact⟨k2+1,by go_num,ae,ai ⟨HM8.o.comp HMR.o (fun q h=>Or.inl (h.elim Or.inl (fun e=>Or.inr ⟨k2,hlt,e⟩))),⟨_,HBl_9.o,rm.step HJ.o HCK.o HLD.o HLN.o⟩,PvF.step HMR.o HINJ.o hlt HJ.o HFK.o HFL.o HBg_9.o HFD.o⟩⟩
      case measure=>simp[intOf];omega
    ·have hk2:k2=P.m:=ae;have hge:¬ (k2:Int)<(P.m:Int):=ae;have HLR0:=ai (rm.GM HCK.o HR.o);have HLR1:=ai (HCK.o row HR.o).2;go_wp2_with fail;refine ay [.val (.pointer (some ⟨p,0,none⟩)),.val (.pointer (some ⟨p,0,none⟩)),.val (.pointer (some ⟨p,4,none⟩)),.val (.int .i64 (at_:Int)),.val (.agg #[.string (qs (-T.c row / T.f row at_)),.slice (some ⟨kz,0,none⟩) P.n P.n]),.ev (.tuple #[])] (fun L g W=>(if L 5=true then ∃ LD,aq W p LD 185/\LD[4]?=some (.string (qs (T.wc+T.wf at_*T.kx row at_)))/\(∀ i,i≠4->LD[i]?=CP[i]?)/\∃ FD,aq W M.wb FD 34/\∀ j,j<P.n->FD[j]?=some (.string (qs ((if j=at_ then 0 else T.wf j)+T.wf at_*T.jK row at_ j))) else aq W p CP 185/\aq W M.wb CW 34)) (S:=fun k=>k=p∨k=M.wb) ag ag ag (Mv.refl HX8.o.ext (fun k h=>h.elim (fun e=>Nat.le_trans (HX8.o.le (Or.inl (Or.inl rfl))) (Nat.le_of_eq e.symm)) (fun h2=>(fun e=>Nat.le_trans (HX8.o.le (Or.inl (Or.inr (Or.inr (Or.inr (Or.inr (Or.inl rfl))))))) (Nat.le_of_eq e.symm)) h2))) ?_ ?_ ?_ ?_ (fun gv_ w9 hm_ he_=>?_)
     ·exact fun gz_=>(by rw[if_neg af];exact⟨HBp_8.o.drew,HBw_8.o.drew⟩)
     ·exact fun L g W W1 h e=>aZ (h) (fun⟨LD,b1,b2,b3,FD,b4,b5⟩=>⟨LD,b1.ext e,b2,b3,FD,b4.ext e,b5⟩) (fun h=>⟨h.1.ext e,h.2.ext e⟩)
     ·intro i v L g W hi h;have n5_:i≠5:=fun e=>by subst e;exact absurd (show false=true from hi) af
      simp only[au n5_,av n5_];exact h
     ·skip
      refine RI 0 (.pointer (some ⟨p,0,none⟩))<|R1 0<|R1 1<|RI 2 (.int .i64 (at_:Int))<|J3 (fun hs_=>hs_.is 8 (.pointer (some ⟨w2.heap.size,0,none⟩))) (fun hs_=>(hs_.mv.az HB1_8.o (fun h=>h.elim ((show w2.heap.size≠p from by have:=HBp_2.o.lt;first|omega|(simp only[];omega)|(simp;omega))) (fun h2=>((show w2.heap.size≠M.wb from by have:=HBw_2.o.lt;first|omega|(simp only[];omega)|(simp;omega))) h2))).cell 0 rfl) (fun hs_=>(hs_.mv.az HB1_8.o (fun h=>h.elim ((show w2.heap.size≠p from by have:=HBp_2.o.lt;first|omega|(simp only[];omega)|(simp;omega))) (fun h2=>((show w2.heap.size≠M.wb from by have:=HBw_2.o.lt;first|omega|(simp only[];omega)|(simp;omega))) h2))).cell 1 rfl) ?_;refine aA.cons (fun L_ g_ A_ W_ hs_=>?_) ?_
      ·have q86_:=hs_.val 2;have q87_:=hs_.val 3;have q88_:=hs_.val 4;refine cI.ev fun K_ hK_=>?_;have n_:=hs_.not;have e_:=hs_.e;rw[if_neg (by rw[n_];decide)] at e_;have HE_:=ai e_;have HM_:=ai hs_.mv;clear e_ n_;go_simp;refine(DM X p 4 M.wb M.wcap P.n at_ kz P.n (q+q) T.wc (T.kx row at_) T.wf (T.jK row at_) CP CW CK 185 _ HG.o HM_.o.ext HLO.o.1 HLO.o.2.2.2.2.1 (HN4.o) (fun h=>HNBpBz.o h.symm) (fun h=>HNBwBz.o h.symm) HE_.o.1 HE_.o.2 (HM_.o.az HBz_8.o (fun h=>h.elim ((show kz≠p from fun h=>HNBpBz.o h.symm)) (fun h2=>((show kz≠M.wb from fun h=>HNBwBz.o h.symm)) h2))) HP0.o.2.2.2.2.1 HP0.o.2.2.2.2.2 HCW.o HCY.o HA.o ae ae ae (HQwc.o.mono ae) HQb.o (fun j hj=>(HQw.o j hj).mono ae) HQbf.o).mono ?_;rintro e W9_ ⟨rfl,m9_,l9_⟩;exact hK_.o _ (HM_.o.comp m9_ (fun q h=>Or.inl h)) (by rw[aM,if_pos rfl];exact l9_)
      exact aA.nil
     simp only[dD,Ke.value,aX,Act.put,List.setIfInBounds_toArray,List.set_cons_zero,List.set_cons_succ];have HX9:=ai (HX8.o.comp hm_ (fun k h=>h.elim (fun e=>(by rw[e];exact(Or.inl (Or.inl rfl)))) (fun h2=>(fun e=>(by rw[e];exact(Or.inl (Or.inr (Or.inr (Or.inr (Or.inr (Or.inl rfl)))))))) h2)));have HBb_9:=ai (hm_.az HBb_8.o (fun h=>h.elim ((show M.bb≠p from fun h=>HN1.o h.symm)) (fun h2=>((show M.bb≠M.wb from HN8.o)) h2)));have HBl_9:=ai (hm_.az HBl_8.o (fun h=>h.elim ((show M.lb≠p from fun h=>HN2.o h.symm)) (fun h2=>((show M.lb≠M.wb from HN11.o)) h2)));have HBo_9:=ai (hm_.az HBo_8.o (fun h=>h.elim ((show M.ob≠p from fun h=>HN3.o h.symm)) (fun h2=>((show M.ob≠M.wb from HN13.o)) h2)));have HB0_9:=ai (hm_.az HB0_8.o (fun h=>h.elim ((show w.heap.size≠p from by have:=HBp.o.lt;first|omega|(simp only[];omega)|(simp;omega))) (fun h2=>((show w.heap.size≠M.wb from by have:=HBw.o.lt;first|omega|(simp only[];omega)|(simp;omega))) h2)));have HBz_9:=ai (hm_.az HBz_8.o (fun h=>h.elim ((show kz≠p from fun h=>HNBpBz.o h.symm)) (fun h2=>((show kz≠M.wb from fun h=>HNBwBz.o h.symm)) h2)));have HB1_9:=ai (hm_.az HB1_8.o (fun h=>h.elim ((show w2.heap.size≠p from by have:=HBp_2.o.lt;first|omega|(simp only[];omega)|(simp;omega))) (fun h2=>((show w2.heap.size≠M.wb from by have:=HBw_2.o.lt;first|omega|(simp only[];omega)|(simp;omega))) h2)));have HBF_9:=ai (HFK.o.mv hm_ (fun i hi h=>h.elim ((HFP.o) i hi) (fun h2=>((HFW.o) i hi) h2)));have h_:=(he_);rw[if_pos rfl] at h_;obtain⟨LP_,b1,b2,b3,FD,b4,b5⟩:=h_;have HBp_9:=ai b1;have HLP:=ai b2;have HLPN:=ai b3;have HBw_9:=ai b4;have HWD:=ai b5;clear b1 b2 b3 b4 b5;clear hm_ he_;have HP1:=ai (And.intro ((HLPN.o 0 af).trans HP0.o.1) (And.intro ((HLPN.o 1 af).trans HP0.o.2.1) (And.intro ((HLPN.o 2 af).trans HP0.o.2.2.1) (And.intro ((HLPN.o 3 af).trans HP0.o.2.2.2.1) (And.intro HLP.o ((HLPN.o 5 af).trans HP0.o.2.2.2.2.2))))));go_wp2_with fail;refine ay [.val (.pointer (some ⟨p,0,none⟩)),.val (.pointer (some ⟨p,0,none⟩)),.val (.pointer (some ⟨p,2,none⟩)),.val (.slice (some ⟨M.lb,0,none⟩) P.m M.lc),.val (.int .i64 (row:Int)),.val (.agg #[.string (qs (-T.c row / T.f row at_)),.slice (some ⟨kz,0,none⟩) P.n P.n]),.val (.pointer (some ⟨M.lb,row*2,none⟩)),.aR] (fun L g W=>(if L 7=true then aq W (M.lb) (((CK2).setIfInBounds (row*2) (.string (qs (-T.c row / T.f row at_)))).setIfInBounds (row*2+1) (.slice (some ⟨kz,0,none⟩) P.n P.n)) 182 else aq W (M.lb) (CK2) 182)) (S:=fun k=>k=M.lb) ag ag ag (Mv.refl HX9.o.ext (fun k h=>(fun e=>Nat.le_trans (HX9.o.le (Or.inl (Or.inr (Or.inr (Or.inl rfl))))) (Nat.le_of_eq e.symm)) h)) ?_ ?_ ?_ ?_ (fun gv_ w10 hm_ he_=>?_)
     ·exact fun gz_=>(by rw[if_neg af];exact HBl_9.o.drew)
     ·exact fun L g W W1 h e=>aZ (h) (fun h=>h.ext e) (fun h=>h.ext e)
     ·intro i v L g W hi h;have n7_:i≠7:=fun e=>by subst e;exact absurd (show false=true from hi) af
      simp only[au n7_,av n7_];exact h
     ·skip
      refine RI 0 (.pointer (some ⟨p,0,none⟩))<|R1 0<|R1 1<|J2 (fun hs_=>hs_.val 2) (fun hs_=>(hs_.mv.az HBp_9.o (fun h=>((show p≠M.lb from HN2.o)) h)).cell (2) HP1.o.2.2.1)<|RI 1 (.int .i64 (row:Int))<|J3 (fun hs_=>hs_.is 8 (.pointer (some ⟨w2.heap.size,0,none⟩))) (fun hs_=>(hs_.mv.az HB1_9.o (fun h=>((show w2.heap.size≠M.lb from by have:=HBl_2.o.lt;first|omega|(simp only[];omega)|(simp;omega))) h)).cell 0 rfl) (fun hs_=>(hs_.mv.az HB1_9.o (fun h=>((show w2.heap.size≠M.lb from by have:=HBl_2.o.lt;first|omega|(simp only[];omega)|(simp;omega))) h)).cell 1 rfl)<|R2 3 4 ?_;refine aA.cons (fun L_ g_ A_ W_ hs_=>?_) ?_
      ·have q96_:=hs_.val 6;have q95_:=hs_.val 5;refine cI.aR fun K_ hK_=>?_;have n_:=hs_.not;have e_:=hs_.e;rw[if_neg (by rw[n_];decide)] at e_;have c_0:=e_.cell (row*2) HLR0.o;have f_0:=e_.free (row*2);have c_1:=e_.cell (row*2+1) HLR1.o;have f_1:=e_.free (row*2+1);have HE_:=ai e_;have HM_:=ai hs_.mv;have HEE_:=ai hs_.e;clear e_ n_;go_simp;exact hK_.o undef _ ((HM_.o.setCell (Or.inl (rfl)) _).setCell (Or.inl (rfl)) _) (by rw[aM,if_pos rfl];exact((HE_.o.set (row*2) _).set (row*2+1) _))
      exact aA.nil
     simp only[dD,Ke.value,aX,Act.put,List.setIfInBounds_toArray,List.set_cons_zero,List.set_cons_succ];have HX10:=ai (HX9.o.comp hm_ (fun k h=>(fun e=>(by rw[e];exact(Or.inl (Or.inr (Or.inr (Or.inl rfl)))))) h));have HBp_10:=ai (hm_.az HBp_9.o (fun h=>((show p≠M.lb from HN2.o)) h));have HBb_10:=ai (hm_.az HBb_9.o (fun h=>((show M.bb≠M.lb from HN6.o)) h));have HBl_10:Hid (aq w10 (M.lb) (((CK2).setIfInBounds (row*2) (.string (qs (-T.c row / T.f row at_)))).setIfInBounds (row*2+1) (.slice (some ⟨kz,0,none⟩) P.n P.n)) 182):=ai (by have h_:=he_;rw[if_pos rfl] at h_;exact h_);have HBo_10:=ai (hm_.az HBo_9.o (fun h=>((show M.ob≠M.lb from fun h=>HN10.o h.symm)) h));have HBw_10:=ai (hm_.az HBw_9.o (fun h=>((show M.wb≠M.lb from fun h=>HN11.o h.symm)) h));have HB0_10:=ai (hm_.az HB0_9.o (fun h=>((show w.heap.size≠M.lb from by have:=HBl.o.lt;first|omega|(simp only[];omega)|(simp;omega))) h));have HBz_10:=ai (hm_.az HBz_9.o (fun h=>((show kz≠M.lb from fun h=>HNBlBz.o h.symm)) h));have HB1_10:=ai (hm_.az HB1_9.o (fun h=>((show w2.heap.size≠M.lb from by have:=HBl_2.o.lt;first|omega|(simp only[];omega)|(simp;omega))) h));have HBF_10:=ai (HBF_9.o.mv hm_ (fun i hi h=>((HFL.o) i hi) h));clear hm_ he_;go_wp2_with fail;refine ay [.val (.pointer (some ⟨p,0,none⟩)),.val (.pointer (some ⟨p,0,none⟩)),.val (.pointer (some ⟨p,1,none⟩)),.val (.slice (some ⟨M.bb,0,none⟩) P.m M.bc),.val (.int .i64 (row:Int)),.val (.pointer (some ⟨p,0,none⟩)),.val (.pointer (some ⟨p,0,none⟩)),.val (.pointer (some ⟨p,3,none⟩)),.val (.slice (some ⟨M.ob,0,none⟩) P.n M.oc),.val (.int .i64 (at_:Int)),.val (.pointer (some ⟨p,0,none⟩)),.val (.pointer (some ⟨p,0,none⟩)),.val (.pointer (some ⟨p,3,none⟩)),.val (.slice (some ⟨M.ob,0,none⟩) P.n M.oc),.val (.int .i64 (at_:Int)),.val (.pointer (some ⟨M.ob,at_,none⟩)),.val (.int .i64 (T.o at_:Int)),.val (.pointer (some ⟨p,0,none⟩)),.val (.pointer (some ⟨p,0,none⟩)),.val (.pointer (some ⟨p,1,none⟩)),.val (.slice (some ⟨M.bb,0,none⟩) P.m M.bc),.val (.int .i64 (row:Int)),.val (.pointer (some ⟨M.bb,row,none⟩)),.val (.int .i64 (T.b row:Int)),.val (.pointer (some ⟨M.bb,row,none⟩)),.aR,.val (.pointer (some ⟨M.ob,at_,none⟩)),.aR] (fun L g W=>(if L 25=true then aq W (M.bb) ((CB).setIfInBounds row (.int .i64 (T.o at_:Int))) 3 else aq W (M.bb) (CB) 3)/\(if L 27=true then aq W (M.ob) ((CO).setIfInBounds at_ (.int .i64 (T.b row:Int))) 3 else aq W (M.ob) (CO) 3)) (S:=fun k=>k=M.bb∨k=M.ob) ag ag ag (Mv.refl HX10.o.ext (fun k h=>h.elim (fun e=>Nat.le_trans (HX10.o.le (Or.inl (Or.inr (Or.inl rfl)))) (Nat.le_of_eq e.symm)) (fun h2=>(fun e=>Nat.le_trans (HX10.o.le (Or.inl (Or.inr (Or.inr (Or.inr (Or.inl rfl)))))) (Nat.le_of_eq e.symm)) h2))) ?_ ?_ ?_ ?_ (fun gv_ w11 hm_ he_=>?_)
     ·exact fun gz_=>⟨(by rw[if_neg af];exact HBb_10.o.drew),(by rw[if_neg af];exact HBo_10.o.drew)⟩
     ·exact fun L g W W1 h e=>⟨aZ (h.1) (fun h=>h.ext e) (fun h=>h.ext e),aZ (h.2) (fun h=>h.ext e) (fun h=>h.ext e)⟩
     ·intro i v L g W hi h;have n25_:i≠25:=fun e=>by subst e;exact absurd (show false=true from hi) af
      have n27_:i≠27:=fun e=>by subst e;exact absurd (show false=true from hi) af
      simp only[au n25_,av n25_,au n27_,av n27_];exact h
     ·skip
      refine RI 0 (.pointer (some ⟨p,0,none⟩))<|R1 0<|R1 1<|J2 (fun hs_=>hs_.val 2) (fun hs_=>(hs_.mv.az HBp_10.o (fun h=>h.elim ((show p≠M.bb from HN1.o)) (fun h2=>((show p≠M.ob from HN3.o)) h2))).cell (1) HP1.o.2.1)<|RI 1 (.int .i64 (row:Int))<|RI 0 (.pointer (some ⟨p,0,none⟩))<|R1 5<|R1 6<|J2 (fun hs_=>hs_.val 7) (fun hs_=>(hs_.mv.az HBp_10.o (fun h=>h.elim ((show p≠M.bb from HN1.o)) (fun h2=>((show p≠M.ob from HN3.o)) h2))).cell (3) HP1.o.2.2.2.1)<|RI 2 (.int .i64 (at_:Int))<|RI 0 (.pointer (some ⟨p,0,none⟩))<|R1 10<|R1 11<|J2 (fun hs_=>hs_.val 12) (fun hs_=>(hs_.mv.az HBp_10.o (fun h=>h.elim ((show p≠M.bb from HN1.o)) (fun h2=>((show p≠M.ob from HN3.o)) h2))).cell (3) HP1.o.2.2.2.1)<|RI 2 (.int .i64 (at_:Int))<|R2 13 14 ?_;refine RV (fun A_ hs_ K_ hK_=>?_) ?_;· have q112_:=hs_.val 15;have n27_:=hs_.no 27 af ag;have e27_:=hs_.e.2;rw[if_neg (by rw[n27_];decide)] at e27_;have co_at_:=e27_.cell (at_) (HCO.o at_ HA.o);clear e27_ n27_;go_simp;exact bY hK_
      refine RI 0 (.pointer (some ⟨p,0,none⟩))<|R1 17<|R1 18<|J2 (fun hs_=>hs_.val 19) (fun hs_=>(hs_.mv.az HBp_10.o (fun h=>h.elim ((show p≠M.bb from HN1.o)) (fun h2=>((show p≠M.ob from HN3.o)) h2))).cell (1) HP1.o.2.1)<|RI 1 (.int .i64 (row:Int))<|R2 20 21 ?_;refine RV (fun A_ hs_ K_ hK_=>?_) ?_;· have q119_:=hs_.val 22;have n25_:=hs_.no 25 af ag;have e25_:=hs_.e.1;rw[if_neg (by rw[n25_];decide)] at e25_;have cb_row:=e25_.cell (row) (HCB.o row HR.o);clear e25_ n25_;go_simp;exact bY hK_
      refine R2 3 4 ?_;refine aA.cons (fun L_ g_ A_ W_ hs_=>?_) ?_
      ·have q121_:=hs_.val 24;have q113_:=hs_.val 16;refine cI.aR fun K_ hK_=>?_;have n_:=hs_.not;have e_:=hs_.e.1;rw[if_neg (by rw[n_];decide)] at e_;have c_0:=e_.cell (row) (HCB.o row HR.o);have f_0:=e_.free row;have HE_:=ai e_;have HM_:=ai hs_.mv;have HEE_:=ai hs_.e;clear e_ n_;go_simp;exact hK_.o undef _ (HM_.o.setCell (Or.inl (Or.inl rfl)) _) ⟨(by rw[aM,if_pos rfl];exact(HE_.o.set row _)),(by rw[au af];exact(wK HEE_.o.2 (fun h=>h.other (a:=⟨M.bb,row,none⟩) _ (fun h=>HN7.o h.symm)) (fun h=>h.other (a:=⟨M.bb,row,none⟩) _ (fun h=>HN7.o h.symm))))⟩
      refine R2 8 9 ?_;refine aA.cons (fun L_ g_ A_ W_ hs_=>?_) ?_
      ·have q122_:=hs_.val 26;have q120_:=hs_.val 23;refine cI.aR fun K_ hK_=>?_;have n_:=hs_.not;have e_:=hs_.e.2;rw[if_neg (by rw[n_];decide)] at e_;have c_0:=e_.cell (at_) (HCO.o at_ HA.o);have f_0:=e_.free at_;have HE_:=ai e_;have HM_:=ai hs_.mv;have HEE_:=ai hs_.e;clear e_ n_;go_simp;exact hK_.o undef _ (HM_.o.setCell (Or.inl (Or.inr (rfl))) _) ⟨(by rw[au af];exact(wK HEE_.o.1 (fun h=>h.other (a:=⟨M.ob,at_,none⟩) _ (HN7.o)) (fun h=>h.other (a:=⟨M.ob,at_,none⟩) _ (HN7.o)))),(by rw[aM,if_pos rfl];exact(HE_.o.set at_ _))⟩
      exact aA.nil
     simp only[dD,Ke.value,aX,Act.put,List.setIfInBounds_toArray,List.set_cons_zero,List.set_cons_succ];have HX11:=ai (HX10.o.comp hm_ (fun k h=>h.elim (fun e=>(by rw[e];exact(Or.inl (Or.inr (Or.inl rfl))))) (fun h2=>(fun e=>(by rw[e];exact(Or.inl (Or.inr (Or.inr (Or.inr (Or.inl rfl))))))) h2)));have HBp_11:=ai (hm_.az HBp_10.o (fun h=>h.elim ((show p≠M.bb from HN1.o)) (fun h2=>((show p≠M.ob from HN3.o)) h2)));have HBb_11:Hid (aq w11 (M.bb) ((CB).setIfInBounds row (.int .i64 (T.o at_:Int))) 3):=ai (by have h_:=he_.1;rw[if_pos rfl] at h_;exact h_);have HBl_11:=ai (hm_.az HBl_10.o (fun h=>h.elim ((show M.lb≠M.bb from fun h=>HN6.o h.symm)) (fun h2=>((show M.lb≠M.ob from HN10.o)) h2)));have HBo_11:Hid (aq w11 (M.ob) ((CO).setIfInBounds at_ (.int .i64 (T.b row:Int))) 3):=ai (by have h_:=he_.2;rw[if_pos rfl] at h_;exact h_);have HBw_11:=ai (hm_.az HBw_10.o (fun h=>h.elim ((show M.wb≠M.bb from fun h=>HN8.o h.symm)) (fun h2=>((show M.wb≠M.ob from fun h=>HN13.o h.symm)) h2)));have HB0_11:=ai (hm_.az HB0_10.o (fun h=>h.elim ((show w.heap.size≠M.bb from by have:=HBb.o.lt;first|omega|(simp only[];omega)|(simp;omega))) (fun h2=>((show w.heap.size≠M.ob from by have:=HBo.o.lt;first|omega|(simp only[];omega)|(simp;omega))) h2)));have HBz_11:=ai (hm_.az HBz_10.o (fun h=>h.elim ((show kz≠M.bb from fun h=>HNBbBz.o h.symm)) (fun h2=>((show kz≠M.ob from fun h=>HNBoBz.o h.symm)) h2)));have HB1_11:=ai (hm_.az HB1_10.o (fun h=>h.elim ((show w2.heap.size≠M.bb from by have:=HBb_2.o.lt;first|omega|(simp only[];omega)|(simp;omega))) (fun h2=>((show w2.heap.size≠M.ob from by have:=HBo_2.o.lt;first|omega|(simp only[];omega)|(simp;omega))) h2)));have HBF_11:=ai (HBF_10.o.mv hm_ (fun i hi h=>h.elim ((HFBB.o) i hi) (fun h2=>((HFO.o) i hi) h2)));clear hm_ he_;have HZN:Hid (∀ i,i<P.m->M.fb i≠kz):=ai (dN HFLT.o HGEBz.o);go_wp2
     first|go_end0|((try simp only[Exit.inBlock,Exit.then]);refine bodyPost_ret (results_none rfl _ _ _) rfl ?_)
     exact⟨rfl,HX11.o,kz,HGEBz.o,Ct HP1.o HBp_11.o HBb_11.o HCB.o HBo_11.o HCO.o HBl_11.o HCK.o hk2 HBF_11.o HBz_11.o HCY.o HBw_11.o HWD.o HR.o HA.o HINJ.o HFW.o HN7.o HZN.o HNBwBz.o.symm HCAP.o (by have:=hn;unfold maxLen;omega)⟩
theorem B8{q:Rat}(h:0<q):0<q.num:=by
 have h1:=(Rat.lt_iff 0 q).1 h;simpa using h1
theorem wy{q:Rat}:q.num<0 ↔ q<0:=by rw[Rat.lt_iff];simp
theorem Cy{q:Rat}:0<q.num ↔ 0<q:=by rw[Rat.lt_iff];simp
theorem Gh{q:Rat}:((qs q).toList == [48])=decide (q=0):=by
 by_cases h:q=0
 ·rw[cC h];simp[h]
 ·rw[aV h];simp[h]
theorem tZ{q:Rat}(h:¬ 0<q):decide (0<q.num)=false:=by
 rw[decide_eq_false_iff_not];intro h';exact h ((Rat.lt_iff 0 q).2 (by simpa using h'))
def Rl(w:World)(v:Value)(m:Nat)(c:Nat->Rat)(vf:Nat->Value):Prop:=∃ (ao:Option Addr) (cap:Nat),v = .slice ao m cap/\m<=cap/\cap<=maxLen /\
 ∀ i,i<m->∃ lb,ao=some ⟨lb,0,none⟩/\w.cell? ⟨lb,i*2,none⟩=some (.string (qs (c i)))/\w.cell? ⟨lb,i*2+1,none⟩=some (vf i)
theorem Rl.ext{w w':World}{v:Value}{m:Nat}{c:Nat->Rat}{vf:Nat->Value}(h:Rl w v m c vf)(e:Ext w w'):Rl w' v m c vf:=by
 obtain⟨ao,cap,h1,h2,h3,h4⟩:=h;exact⟨ao,cap,h1,h2,h3,fun i hi=>let ⟨lb,e1,e2,e3⟩:=h4 i hi;⟨lb,e1,ax e e2,ax e e3⟩⟩
structure TR(P:LP)(T:aN)(w:World)(p:Nat)(vb vl vo vw:Value)(vf:Nat->Value):Prop where
 tab:∃ CP,aq w p CP 185/\CP[0]?=some (.int .i64 (P.n:Int))/\CP[1]?=some vb/\CP[2]?=some vl/\CP[3]?=some vo/\CP[4]?=some (.string (qs T.wc))/\CP[5]?=some vw
 b:Ri w vb P.m (fun i=>(T.b i:Nat))
 o:Ri w vo P.n (fun j=>(T.o j:Nat))
 l:Rl w vl P.m T.c vf
 wf:Rq w vw P.n T.wf
 f:∀ i,i<P.m->Rq w (vf i) P.n (T.f i)
theorem TR.ext{P:LP}{T:aN}{w w':World}{p:Nat}{vb vl vo vw:Value}{vf:Nat->Value}(h:TR P T w p vb vl vo vw vf)(e:Ext w w'):TR P T w' p vb vl vo vw vf :=
 ⟨let ⟨CP,a,b⟩:=h.tab;⟨CP,a.ext e,b⟩,h.b.ext e,h.o.ext e,h.l.ext e,h.wf.ext e,fun i hi=>(h.f i hi).ext e⟩
theorem Ao{vs:Nat->Nat}{is:Nat->Bool}{k:Nat}(h:is k=false):jD vs is (k+1)=jD vs is k:=by rw[jD,if_neg (by simp[h])]
theorem x9{vs:Nat->Nat}{is:Nat->Bool}{k:Nat}(h:is k=true)(e:jD vs is k=-1):jD vs is (k+1)=(k:Int):=by rw[jD,if_pos ⟨h,Or.inl ae⟩]
theorem Aq{vs:Nat->Nat}{is:Nat->Bool}{k i:Nat}(h:is k=true)(e:jD vs is k=(i:Int))(hl:vs k<vs i):jD vs is (k+1)=(k:Int):=by rw[jD,if_pos ⟨h,Or.inr (by rw[e];exact hl)⟩]
theorem Ap{vs:Nat->Nat}{is:Nat->Bool}{k i:Nat}(h:is k=true)(e:jD vs is k=(i:Int))(hl:¬ vs k<vs i):jD vs is (k+1)=(i:Int):=by
 rw[jD,if_neg (fun h'=>h'.2.elim (fun x=>ae) (fun x=>by rw[e] at x;exact hl x))];exact e
theorem xo{w:World}{a:Addr}{i:Nat}{v:Value}(h:∃ b,(some a:Option Addr)=some b/\w.cell? (b.add i)=some v):w.cell? (a.add i)=some v:=by
 obtain⟨b,e,h⟩:=h;rw[Option.some.inj e];exact h
theorem aY{n:Nat}(p v:Nat)(r:Bool)(w:World){CP:Array Value}(hB:aq w p CP 185)(h0:CP[0]?=some (.int .i64 (n:Int)))(hr:decide (n<=v)=r):Calls prog 198 #[.pointer (some ⟨p,0,none⟩),.int .i64 (v:Int)] w (fun e w'=>e = .returned (.bool r)/\w=w'):=by
 have HBp:=ai hB;have HP0:=ai h0;have HR:=ai hr;clear hB h0 hr;go_enter func198,ntmps198;by_cases h1:n<=v
 ·obtain rfl:r=true:=by rw[← HR.o];simpa using h1
  have h2:(n:Int)<=(v:Int):=ae;have cp_0:=HBp.o.cell (0) HP0.o;go_wp2;go_ret;exact⟨rfl,rfl⟩
 ·obtain rfl:r=false:=by rw[← HR.o];simpa using h1
  have h2:¬ (n:Int)<=(v:Int):=ae;have cp_0:=HBp.o.cell (0) HP0.o;go_wp2;go_ret;exact⟨rfl,rfl⟩
theorem GK(P:LP)(T:aN)(p:Nat)(vb vl vo vw:Value)(vf:Nat->Value)(w:World)(xb i:Nat)(CX:Array Value)(tx:TypeId)(r:Bool)(g:Gd w)(hT:TR P T w p vb vl vo vw vf)(bx:aq w xb CX tx)(x0:CX[0]?=some (.pointer (some ⟨p,0,none⟩)))(hi:i<P.m)(hr:(decide (P.n<=T.b i) && decide (T.c i<0))=r):Calls prog 202 #[.int .i64 (i:Int),.pointer (some ⟨xb,0,none⟩)] w (aD w (.bool r)):=by
 have HG:=ai g;have HBx:=ai bx;have HX00:=ai x0;have HI:=ai hi;have HR:=ai hr;clear g bx x0 hi hr;obtain⟨CP,b1,p0⟩:=hT.tab;obtain⟨bo,bc,rfl,zb1,pK,hb⟩:=hT.b;obtain⟨lo_,lc,rfl,zl1,zl2,hl⟩:=hT.l;obtain⟨oo,oc,rfl,zo1,zo2,ho⟩:=hT.o;obtain⟨wo,wcap,rfl,zw1,zw2,hw⟩:=hT.wf;have HF:=ai hT.f;have HTR:=ai hT;have HBp:=ai b1;have HP0:Hid (_/\_/\_/\_/\_/\_):=ai p0;have HRB:=ai hb;have HRL:=ai hl;have HRO:=ai ho;have HRW:=ai hw;clear b1 p0 hb hl ho hw hT zb1 pK zl1 zl2 zo1 zo2 zw1 zw2;go_enter func202,ntmps202;have vi_:=HI.o;obtain⟨ba,rfl,zb_⟩:=HRB.o i HI.o;have HCb:=ai zb_;clear zb_;have vi_:=HI.o;obtain⟨la,rfl,zl_,zm_⟩:=HRL.o i HI.o;have HCl:=ai zl_;have HCm:=ai zm_;clear zl_ zm_;by_cases h1:P.n<=T.b i
 ·have h1p:=ai h1;clear h1;go_wp2_with fail;refine ay [.val (.pointer (some ⟨p,0,none⟩)),.val (.pointer (some ⟨p,0,none⟩)),.val (.pointer (some ⟨p,0,none⟩)),.val (.pointer (some ⟨p,1,none⟩)),.val (.slice (some ba) P.m bc),.val (.int .i64 (i:Int)),.val (.pointer (some (ba.add i))),.val (.int .i64 (T.b i:Int)),.val (.bool true),.val (.bool true),.val (.pointer (some ⟨p,0,none⟩)),.val (.pointer (some ⟨p,0,none⟩)),.val (.pointer (some ⟨p,2,none⟩)),.val (.slice (some ⟨la,0,none⟩) P.m lc),.val (.int .i64 (i:Int)),.val (.pointer (some ⟨la,i*2,none⟩)),.val (.pointer (some ⟨la,i*2,none⟩)),.val (.string (qs (T.c i))),.val (.int .i64 ((T.c i).num.sign)),.val (.bool (decide ((T.c i).num<0))),.val (.bool (decide ((T.c i).num<0))),.val (.bool (decide ((T.c i).num<0)))] (fun L g W=>True) (S:=fun _=>False) ag ag ag (Mv.refl (Ext.refl w) (fun k h=>h.elim)) ?_ ?_ ?_ ?_ (fun gv_ w1 hm_ he_=>?_)
  ·exact fun _=>trivial
  ·exact fun _ _ _ _ h _=>h
  ·exact fun _ _ _ _ _ _ h=>h
  ·skip
   exact J2 (fun hs_=>hs_.is 1 (.pointer (some ⟨xb,0,none⟩))) (fun hs_=>(hs_.mv.az HBx.o (fun h=>h)).cell (0) HX00.o)<|J2 (fun hs_=>hs_.is 1 (.pointer (some ⟨xb,0,none⟩))) (fun hs_=>(hs_.mv.az HBx.o (fun h=>h)).cell (0) HX00.o)<|R1 1<|R1 2<|J2 (fun hs_=>hs_.val 3) (fun hs_=>(hs_.mv.az HBp.o (fun h=>h)).cell (1) HP0.o.2.1)<|RI 0 (.int .i64 (i:Int))<|R2 4 5<|J2 (fun hs_=>hs_.val 6) (fun hs_=>ax hs_.mv.ext (HCb.o))<|M2 (fun hs_=>hs_.val 0) (fun hs_=>hs_.val 7) (fun hs_=>aY (n:=P.n) p (T.b i) true _ (hs_.mv.az HBp.o (fun h=>h)) HP0.o.1 (by have:=h1p.out;simp;omega))<|R1 8<|J2 (fun hs_=>hs_.is 1 (.pointer (some ⟨xb,0,none⟩))) (fun hs_=>(hs_.mv.az HBx.o (fun h=>h)).cell (0) HX00.o)<|R1 10<|R1 11<|J2 (fun hs_=>hs_.val 12) (fun hs_=>(hs_.mv.az HBp.o (fun h=>h)).cell (2) HP0.o.2.2.1)<|RI 0 (.int .i64 (i:Int))<|R2 13 14<|R1 15<|J2 (fun hs_=>hs_.val 16) (fun hs_=>ax hs_.mv.ext (HCl.o))<|M1 (fun hs_=>hs_.val 17) (fun _=>aU (T.c i) _)<|R1 18<|R2 9 19<|R1 20<|aA.nil
  simp only[dD,Ke.value,aX,Act.put,List.setIfInBounds_toArray,List.set_cons_zero,List.set_cons_succ];have HX1:Hid (Ext w w1):=ai hm_.ext;clear hm_ he_;go_wp2;go_ret;exact⟨by rw[← HR.o];simp[h1p.out,wy],HX1.o⟩
 ·have h1p:=ai h1;obtain rfl:r=false:=by rw[← HR.o];simp[h1]
  clear h1;go_wp2_with fail;refine ay [.val (.pointer (some ⟨p,0,none⟩)),.val (.pointer (some ⟨p,0,none⟩)),.val (.pointer (some ⟨p,0,none⟩)),.val (.pointer (some ⟨p,1,none⟩)),.val (.slice (some ba) P.m bc),.val (.int .i64 (i:Int)),.val (.pointer (some (ba.add i))),.val (.int .i64 (T.b i:Int)),.val (.bool false),.val (.bool false),.off,.off,.off,.off,.off,.off,.off,.off,.off,.off,.val (.bool false),.val (.bool false)] (fun L g W=>True) (S:=fun _=>False) ag ag ag (Mv.refl (Ext.refl w) (fun k h=>h.elim)) ?_ ?_ ?_ ?_ (fun gv_ w1 hm_ he_=>?_)
  ·exact fun _=>trivial
  ·exact fun _ _ _ _ h _=>h
  ·exact fun _ _ _ _ _ _ h=>h
  ·skip
   exact J2 (fun hs_=>hs_.is 1 (.pointer (some ⟨xb,0,none⟩))) (fun hs_=>(hs_.mv.az HBx.o (fun h=>h)).cell (0) HX00.o)<|J2 (fun hs_=>hs_.is 1 (.pointer (some ⟨xb,0,none⟩))) (fun hs_=>(hs_.mv.az HBx.o (fun h=>h)).cell (0) HX00.o)<|R1 1<|R1 2<|J2 (fun hs_=>hs_.val 3) (fun hs_=>(hs_.mv.az HBp.o (fun h=>h)).cell (1) HP0.o.2.1)<|RI 0 (.int .i64 (i:Int))<|R2 4 5<|J2 (fun hs_=>hs_.val 6) (fun hs_=>ax hs_.mv.ext (HCb.o))<|M2 (fun hs_=>hs_.val 0) (fun hs_=>hs_.val 7) (fun hs_=>aY (n:=P.n) p (T.b i) false _ (hs_.mv.az HBp.o (fun h=>h)) HP0.o.1 (by have:=h1p.out;simp;omega))<|R1 8<|RO<|RO<|RO<|RO<|RO<|RO<|RO<|RO<|RO<|RO<|J2 (fun hs_=>hs_.val 9) (fun hs_=>hs_.un 19)<|R1 20<|aA.nil
  simp only[dD,Ke.value,aX,Act.put,List.setIfInBounds_toArray,List.set_cons_zero,List.set_cons_succ];have HX1:Hid (Ext w w1):=ai hm_.ext;clear hm_ he_;go_wp2;go_ret;exact⟨rfl,HX1.o⟩
theorem GJ(P:LP)(T:aN)(p:Nat)(vb vl vo vw:Value)(vf:Nat->Value)(w:World)(xb j:Nat)(CX:Array Value)(tx:TypeId)(yb row:Nat)(CY:Array Value)(ty:TypeId)(r:Bool)(g:Gd w)(hT:TR P T w p vb vl vo vw vf)(bx:aq w xb CX tx)(x0:CX[0]?=some (.pointer (some ⟨p,0,none⟩)))(by_:aq w yb CY ty)(y0:CY[0]?=some (.int .i64 (row:Int)))(hrow:row<P.m)(hi:j<P.n)(hr:(decide (P.n<=T.o j) && decide (0<T.f row j))=r):Calls prog 203 #[.int .i64 (j:Int),.pointer (some ⟨xb,0,none⟩),.pointer (some ⟨yb,0,none⟩)] w (aD w (.bool r)):=by
 have HG:=ai g;have HBx:=ai bx;have HX00:=ai x0;have HI:=ai hi;have HR:=ai hr;have HBy:=ai by_;have HY00:=ai y0;have HROW:=ai hrow;clear g bx x0 hi hr by_ y0 hrow;obtain⟨CP,b1,p0⟩:=hT.tab;obtain⟨bo,bc,rfl,zb1,pK,hb⟩:=hT.b;obtain⟨lo_,lc,rfl,zl1,zl2,hl⟩:=hT.l;obtain⟨oo,oc,rfl,zo1,zo2,ho⟩:=hT.o;obtain⟨wo,wcap,rfl,zw1,zw2,hw⟩:=hT.wf;have HF:=ai hT.f;have HTR:=ai hT;have HBp:=ai b1;have HP0:Hid (_/\_/\_/\_/\_/\_):=ai p0;have HRB:=ai hb;have HRL:=ai hl;have HRO:=ai ho;have HRW:=ai hw;clear b1 p0 hb hl ho hw hT zb1 pK zl1 zl2 zo1 zo2 zw1 zw2;go_enter func203,ntmps203;have vj_:=HI.o;obtain⟨oa,rfl,zo_⟩:=HRO.o j HI.o;have HCo:=ai zo_;clear zo_;have vrow_:=HROW.o;obtain⟨la,rfl,zl_,zm_⟩:=HRL.o row HROW.o;have HCl:=ai zl_;have HCm:=ai zm_;clear zl_ zm_;obtain⟨fo,fcap,ef_,_,_,hf_⟩:=HF.o row HROW.o;obtain⟨fa,rfl,zf_⟩:=hf_ j HI.o;rw[ef_] at HCm;have HCf:=ai zf_;clear zf_ hf_ ef_;by_cases h1:P.n<=T.o j
 ·have h1p:=ai h1;clear h1;go_wp2_with fail;refine ay [.val (.pointer (some ⟨p,0,none⟩)),.val (.pointer (some ⟨p,0,none⟩)),.val (.pointer (some ⟨p,0,none⟩)),.val (.pointer (some ⟨p,3,none⟩)),.val (.slice (some oa) P.n oc),.val (.int .i64 (j:Int)),.val (.pointer (some (oa.add j))),.val (.int .i64 (T.o j:Int)),.val (.bool true),.val (.bool true),.val (.pointer (some ⟨p,0,none⟩)),.val (.pointer (some ⟨p,0,none⟩)),.val (.pointer (some ⟨p,2,none⟩)),.val (.slice (some ⟨la,0,none⟩) P.m lc),.val (.int .i64 (row:Int)),.val (.pointer (some ⟨la,row*2,none⟩)),.val (.pointer (some ⟨la,row*2+1,none⟩)),.val (.slice (some fa) P.n fcap),.val (.int .i64 (j:Int)),.val (.pointer (some (fa.add j))),.val (.string (qs (T.f row j))),.val (.int .i64 ((T.f row j).num.sign)),.val (.bool (decide (0<(T.f row j).num))),.val (.bool (decide (0<(T.f row j).num))),.val (.bool (decide (0<(T.f row j).num)))] (fun L g W=>True) (S:=fun _=>False) ag ag ag (Mv.refl (Ext.refl w) (fun k h=>h.elim)) ?_ ?_ ?_ ?_ (fun gv_ w1 hm_ he_=>?_)
  ·exact fun _=>trivial
  ·exact fun _ _ _ _ h _=>h
  ·exact fun _ _ _ _ _ _ h=>h
  ·skip
   exact J2 (fun hs_=>hs_.is 1 (.pointer (some ⟨xb,0,none⟩))) (fun hs_=>(hs_.mv.az HBx.o (fun h=>h)).cell (0) HX00.o)<|J2 (fun hs_=>hs_.is 1 (.pointer (some ⟨xb,0,none⟩))) (fun hs_=>(hs_.mv.az HBx.o (fun h=>h)).cell (0) HX00.o)<|R1 1<|R1 2<|J2 (fun hs_=>hs_.val 3) (fun hs_=>(hs_.mv.az HBp.o (fun h=>h)).cell (3) HP0.o.2.2.2.1)<|RI 0 (.int .i64 (j:Int))<|R2 4 5<|J2 (fun hs_=>hs_.val 6) (fun hs_=>ax hs_.mv.ext (HCo.o))<|M2 (fun hs_=>hs_.val 0) (fun hs_=>hs_.val 7) (fun hs_=>aY (n:=P.n) p (T.o j) true _ (hs_.mv.az HBp.o (fun h=>h)) HP0.o.1 (by have:=h1p.out;simp;omega))<|R1 8<|J2 (fun hs_=>hs_.is 1 (.pointer (some ⟨xb,0,none⟩))) (fun hs_=>(hs_.mv.az HBx.o (fun h=>h)).cell (0) HX00.o)<|R1 10<|R1 11<|J2 (fun hs_=>hs_.val 12) (fun hs_=>(hs_.mv.az HBp.o (fun h=>h)).cell (2) HP0.o.2.2.1)<|J2 (fun hs_=>hs_.is 2 (.pointer (some ⟨yb,0,none⟩))) (fun hs_=>(hs_.mv.az HBy.o (fun h=>h)).cell (0) HY00.o)<|R2 13 14<|R1 15<|J2 (fun hs_=>hs_.val 16) (fun hs_=>ax hs_.mv.ext (HCm.o))<|RI 0 (.int .i64 (j:Int))<|R2 17 18<|J2 (fun hs_=>hs_.val 19) (fun hs_=>ax hs_.mv.ext (HCf.o))<|M1 (fun hs_=>hs_.val 20) (fun _=>aU (T.f row j) _)<|R1 21<|R2 9 22<|R1 23<|aA.nil
  simp only[dD,Ke.value,aX,Act.put,List.setIfInBounds_toArray,List.set_cons_zero,List.set_cons_succ];have HX1:Hid (Ext w w1):=ai hm_.ext;clear hm_ he_;go_wp2;go_ret;exact⟨by rw[← HR.o];simp[h1p.out,Cy],HX1.o⟩
 ·have h1p:=ai h1;obtain rfl:r=false:=by rw[← HR.o];simp[h1]
  clear h1;go_wp2_with fail;refine ay [.val (.pointer (some ⟨p,0,none⟩)),.val (.pointer (some ⟨p,0,none⟩)),.val (.pointer (some ⟨p,0,none⟩)),.val (.pointer (some ⟨p,3,none⟩)),.val (.slice (some oa) P.n oc),.val (.int .i64 (j:Int)),.val (.pointer (some (oa.add j))),.val (.int .i64 (T.o j:Int)),.val (.bool false),.val (.bool false),.off,.off,.off,.off,.off,.off,.off,.off,.off,.off,.off,.off,.off,.val (.bool false),.val (.bool false)] (fun L g W=>True) (S:=fun _=>False) ag ag ag (Mv.refl (Ext.refl w) (fun k h=>h.elim)) ?_ ?_ ?_ ?_ (fun gv_ w1 hm_ he_=>?_)
  ·exact fun _=>trivial
  ·exact fun _ _ _ _ h _=>h
  ·exact fun _ _ _ _ _ _ h=>h
  ·skip
   exact J2 (fun hs_=>hs_.is 1 (.pointer (some ⟨xb,0,none⟩))) (fun hs_=>(hs_.mv.az HBx.o (fun h=>h)).cell (0) HX00.o)<|J2 (fun hs_=>hs_.is 1 (.pointer (some ⟨xb,0,none⟩))) (fun hs_=>(hs_.mv.az HBx.o (fun h=>h)).cell (0) HX00.o)<|R1 1<|R1 2<|J2 (fun hs_=>hs_.val 3) (fun hs_=>(hs_.mv.az HBp.o (fun h=>h)).cell (3) HP0.o.2.2.2.1)<|RI 0 (.int .i64 (j:Int))<|R2 4 5<|J2 (fun hs_=>hs_.val 6) (fun hs_=>ax hs_.mv.ext (HCo.o))<|M2 (fun hs_=>hs_.val 0) (fun hs_=>hs_.val 7) (fun hs_=>aY (n:=P.n) p (T.o j) false _ (hs_.mv.az HBp.o (fun h=>h)) HP0.o.1 (by have:=h1p.out;simp;omega))<|R1 8<|RO<|RO<|RO<|RO<|RO<|RO<|RO<|RO<|RO<|RO<|RO<|RO<|RO<|J2 (fun hs_=>hs_.val 9) (fun hs_=>hs_.un 22)<|R1 23<|aA.nil
  simp only[dD,Ke.value,aX,Act.put,List.setIfInBounds_toArray,List.set_cons_zero,List.set_cons_succ];have HX1:Hid (Ext w w1):=ai hm_.ext;clear hm_ he_;go_wp2;go_ret;exact⟨rfl,HX1.o⟩
theorem GI(P:LP)(T:aN)(p:Nat)(vb vl vo vw:Value)(vf:Nat->Value)(w:World)(xb j:Nat)(CX:Array Value)(tx:TypeId)(r:Bool)(g:Gd w)(hT:TR P T w p vb vl vo vw vf)(bx:aq w xb CX tx)(x0:CX[0]?=some (.pointer (some ⟨p,0,none⟩)))(hi:j<P.n)(hr:(!decide (P.n<=T.o j) && decide (T.wf j≠0))=r):Calls prog 204 #[.int .i64 (j:Int),.pointer (some ⟨xb,0,none⟩)] w (aD w (.bool r)):=by
 have HG:=ai g;have HBx:=ai bx;have HX00:=ai x0;have HI:=ai hi;have HR:=ai hr;clear g bx x0 hi hr;obtain⟨CP,b1,p0⟩:=hT.tab;obtain⟨bo,bc,rfl,zb1,pK,hb⟩:=hT.b;obtain⟨lo_,lc,rfl,zl1,zl2,hl⟩:=hT.l;obtain⟨oo,oc,rfl,zo1,zo2,ho⟩:=hT.o;obtain⟨wo,wcap,rfl,zw1,zw2,hw⟩:=hT.wf;have HF:=ai hT.f;have HTR:=ai hT;have HBp:=ai b1;have HP0:Hid (_/\_/\_/\_/\_/\_):=ai p0;have HRB:=ai hb;have HRL:=ai hl;have HRO:=ai ho;have HRW:=ai hw;clear b1 p0 hb hl ho hw hT zb1 pK zl1 zl2 zo1 zo2 zw1 zw2;go_enter func204,ntmps204;have vj_:=HI.o;obtain⟨oa,rfl,zo_⟩:=HRO.o j HI.o;have HCo:=ai zo_;clear zo_;obtain⟨wa,rfl,zw_⟩:=HRW.o j HI.o;have HCw:=ai zw_;clear zw_;by_cases h1:P.n<=T.o j
 ·have h1p:=ai h1;obtain rfl:r=false:=by rw[← HR.o];simp[h1]
  clear h1;go_wp2_with fail;refine ay [.val (.pointer (some ⟨p,0,none⟩)),.val (.pointer (some ⟨p,0,none⟩)),.val (.pointer (some ⟨p,0,none⟩)),.val (.pointer (some ⟨p,3,none⟩)),.val (.slice (some oa) P.n oc),.val (.int .i64 (j:Int)),.val (.pointer (some (oa.add j))),.val (.int .i64 (T.o j:Int)),.val (.bool true),.val (.bool false),.val (.bool false),.off,.off,.off,.off,.off,.off,.off,.off,.off,.val (.bool false),.val (.bool false)] (fun L g W=>True) (S:=fun _=>False) ag ag ag (Mv.refl (Ext.refl w) (fun k h=>h.elim)) ?_ ?_ ?_ ?_ (fun gv_ w1 hm_ he_=>?_)
  ·exact fun _=>trivial
  ·exact fun _ _ _ _ h _=>h
  ·exact fun _ _ _ _ _ _ h=>h
  ·skip
   exact J2 (fun hs_=>hs_.is 1 (.pointer (some ⟨xb,0,none⟩))) (fun hs_=>(hs_.mv.az HBx.o (fun h=>h)).cell (0) HX00.o)<|J2 (fun hs_=>hs_.is 1 (.pointer (some ⟨xb,0,none⟩))) (fun hs_=>(hs_.mv.az HBx.o (fun h=>h)).cell (0) HX00.o)<|R1 1<|R1 2<|J2 (fun hs_=>hs_.val 3) (fun hs_=>(hs_.mv.az HBp.o (fun h=>h)).cell (3) HP0.o.2.2.2.1)<|RI 0 (.int .i64 (j:Int))<|R2 4 5<|J2 (fun hs_=>hs_.val 6) (fun hs_=>ax hs_.mv.ext (HCo.o))<|M2 (fun hs_=>hs_.val 0) (fun hs_=>hs_.val 7) (fun hs_=>aY (n:=P.n) p (T.o j) true _ (hs_.mv.az HBp.o (fun h=>h)) HP0.o.1 (by have:=h1p.out;simp;omega))<|R1 8<|R1 9<|RO<|RO<|RO<|RO<|RO<|RO<|RO<|RO<|RO<|J2 (fun hs_=>hs_.val 10) (fun hs_=>hs_.un 19)<|R1 20<|aA.nil
  simp only[dD,Ke.value,aX,Act.put,List.setIfInBounds_toArray,List.set_cons_zero,List.set_cons_succ];have HX1:Hid (Ext w w1):=ai hm_.ext;clear hm_ he_;go_wp2;go_ret;exact⟨rfl,HX1.o⟩
 ·have h1p:=ai h1;clear h1;go_wp2_with fail;refine ay [.val (.pointer (some ⟨p,0,none⟩)),.val (.pointer (some ⟨p,0,none⟩)),.val (.pointer (some ⟨p,0,none⟩)),.val (.pointer (some ⟨p,3,none⟩)),.val (.slice (some oa) P.n oc),.val (.int .i64 (j:Int)),.val (.pointer (some (oa.add j))),.val (.int .i64 (T.o j:Int)),.val (.bool false),.val (.bool true),.val (.bool true),.val (.pointer (some ⟨p,0,none⟩)),.val (.pointer (some ⟨p,0,none⟩)),.val (.pointer (some ⟨p,4,none⟩)),.val (.pointer (some ⟨p,5,none⟩)),.val (.slice (some wa) P.n wcap),.val (.int .i64 (j:Int)),.val (.pointer (some (wa.add j))),.val (.string (qs (T.wf j))),.val (.bool (!((qs (T.wf j)).toList == [48]))),.val (.bool (!((qs (T.wf j)).toList == [48]))),.val (.bool (!((qs (T.wf j)).toList == [48])))] (fun L g W=>True) (S:=fun _=>False) ag ag ag (Mv.refl (Ext.refl w) (fun k h=>h.elim)) ?_ ?_ ?_ ?_ (fun gv_ w1 hm_ he_=>?_)
  ·exact fun _=>trivial
  ·exact fun _ _ _ _ h _=>h
  ·exact fun _ _ _ _ _ _ h=>h
  ·skip
   exact J2 (fun hs_=>hs_.is 1 (.pointer (some ⟨xb,0,none⟩))) (fun hs_=>(hs_.mv.az HBx.o (fun h=>h)).cell (0) HX00.o)<|J2 (fun hs_=>hs_.is 1 (.pointer (some ⟨xb,0,none⟩))) (fun hs_=>(hs_.mv.az HBx.o (fun h=>h)).cell (0) HX00.o)<|R1 1<|R1 2<|J2 (fun hs_=>hs_.val 3) (fun hs_=>(hs_.mv.az HBp.o (fun h=>h)).cell (3) HP0.o.2.2.2.1)<|RI 0 (.int .i64 (j:Int))<|R2 4 5<|J2 (fun hs_=>hs_.val 6) (fun hs_=>ax hs_.mv.ext (HCo.o))<|M2 (fun hs_=>hs_.val 0) (fun hs_=>hs_.val 7) (fun hs_=>aY (n:=P.n) p (T.o j) false _ (hs_.mv.az HBp.o (fun h=>h)) HP0.o.1 (by have:=h1p.out;simp;omega))<|R1 8<|R1 9<|J2 (fun hs_=>hs_.is 1 (.pointer (some ⟨xb,0,none⟩))) (fun hs_=>(hs_.mv.az HBx.o (fun h=>h)).cell (0) HX00.o)<|R1 11<|R1 12<|R1 13<|J2 (fun hs_=>hs_.val 14) (fun hs_=>(hs_.mv.az HBp.o (fun h=>h)).cell (5) HP0.o.2.2.2.2.2)<|RI 0 (.int .i64 (j:Int))<|R2 15 16<|J2 (fun hs_=>hs_.val 17) (fun hs_=>ax hs_.mv.ext (HCw.o))<|R1 18<|R2 10 19<|R1 20<|aA.nil
  simp only[dD,Ke.value,aX,Act.put,List.setIfInBounds_toArray,List.set_cons_zero,List.set_cons_succ];have HX1:Hid (Ext w w1):=ai hm_.ext;clear hm_ he_;go_wp2;go_ret;exact⟨by rw[← HR.o];simp[h1p.out,Gh],HX1.o⟩
theorem GH(P:LP)(T:aN)(p:Nat)(vb vl vo vw:Value)(vf:Nat->Value)(w:World)(xb j:Nat)(CX:Array Value)(tx:TypeId)(r:Bool)(g:Gd w)(hT:TR P T w p vb vl vo vw vf)(bx:aq w xb CX tx)(x0:CX[0]?=some (.pointer (some ⟨p,0,none⟩)))(hi:j<P.n)(hr:(decide (P.n<=T.o j) && decide (T.wf j<0))=r):Calls prog 205 #[.int .i64 (j:Int),.pointer (some ⟨xb,0,none⟩)] w (aD w (.bool r)):=by
 have HG:=ai g;have HBx:=ai bx;have HX00:=ai x0;have HI:=ai hi;have HR:=ai hr;clear g bx x0 hi hr;obtain⟨CP,b1,p0⟩:=hT.tab;obtain⟨bo,bc,rfl,zb1,pK,hb⟩:=hT.b;obtain⟨lo_,lc,rfl,zl1,zl2,hl⟩:=hT.l;obtain⟨oo,oc,rfl,zo1,zo2,ho⟩:=hT.o;obtain⟨wo,wcap,rfl,zw1,zw2,hw⟩:=hT.wf;have HF:=ai hT.f;have HTR:=ai hT;have HBp:=ai b1;have HP0:Hid (_/\_/\_/\_/\_/\_):=ai p0;have HRB:=ai hb;have HRL:=ai hl;have HRO:=ai ho;have HRW:=ai hw;clear b1 p0 hb hl ho hw hT zb1 pK zl1 zl2 zo1 zo2 zw1 zw2;go_enter func205,ntmps205;have vj_:=HI.o;obtain⟨oa,rfl,zo_⟩:=HRO.o j HI.o;have HCo:=ai zo_;clear zo_;obtain⟨wa,rfl,zw_⟩:=HRW.o j HI.o;have HCw:=ai zw_;clear zw_;by_cases h1:P.n<=T.o j
 ·have h1p:=ai h1;clear h1;go_wp2_with fail;refine ay [.val (.pointer (some ⟨p,0,none⟩)),.val (.pointer (some ⟨p,0,none⟩)),.val (.pointer (some ⟨p,0,none⟩)),.val (.pointer (some ⟨p,3,none⟩)),.val (.slice (some oa) P.n oc),.val (.int .i64 (j:Int)),.val (.pointer (some (oa.add j))),.val (.int .i64 (T.o j:Int)),.val (.bool true),.val (.bool true),.val (.pointer (some ⟨p,0,none⟩)),.val (.pointer (some ⟨p,0,none⟩)),.val (.pointer (some ⟨p,4,none⟩)),.val (.pointer (some ⟨p,5,none⟩)),.val (.slice (some wa) P.n wcap),.val (.int .i64 (j:Int)),.val (.pointer (some (wa.add j))),.val (.string (qs (T.wf j))),.val (.int .i64 ((T.wf j).num.sign)),.val (.bool (decide ((T.wf j).num<0))),.val (.bool (decide ((T.wf j).num<0))),.val (.bool (decide ((T.wf j).num<0)))] (fun L g W=>True) (S:=fun _=>False) ag ag ag (Mv.refl (Ext.refl w) (fun k h=>h.elim)) ?_ ?_ ?_ ?_ (fun gv_ w1 hm_ he_=>?_)
  ·exact fun _=>trivial
  ·exact fun _ _ _ _ h _=>h
  ·exact fun _ _ _ _ _ _ h=>h
  ·skip
   exact J2 (fun hs_=>hs_.is 1 (.pointer (some ⟨xb,0,none⟩))) (fun hs_=>(hs_.mv.az HBx.o (fun h=>h)).cell (0) HX00.o)<|J2 (fun hs_=>hs_.is 1 (.pointer (some ⟨xb,0,none⟩))) (fun hs_=>(hs_.mv.az HBx.o (fun h=>h)).cell (0) HX00.o)<|R1 1<|R1 2<|J2 (fun hs_=>hs_.val 3) (fun hs_=>(hs_.mv.az HBp.o (fun h=>h)).cell (3) HP0.o.2.2.2.1)<|RI 0 (.int .i64 (j:Int))<|R2 4 5<|J2 (fun hs_=>hs_.val 6) (fun hs_=>ax hs_.mv.ext (HCo.o))<|M2 (fun hs_=>hs_.val 0) (fun hs_=>hs_.val 7) (fun hs_=>aY (n:=P.n) p (T.o j) true _ (hs_.mv.az HBp.o (fun h=>h)) HP0.o.1 (by have:=h1p.out;simp;omega))<|R1 8<|J2 (fun hs_=>hs_.is 1 (.pointer (some ⟨xb,0,none⟩))) (fun hs_=>(hs_.mv.az HBx.o (fun h=>h)).cell (0) HX00.o)<|R1 10<|R1 11<|R1 12<|J2 (fun hs_=>hs_.val 13) (fun hs_=>(hs_.mv.az HBp.o (fun h=>h)).cell (5) HP0.o.2.2.2.2.2)<|RI 0 (.int .i64 (j:Int))<|R2 14 15<|J2 (fun hs_=>hs_.val 16) (fun hs_=>ax hs_.mv.ext (HCw.o))<|M1 (fun hs_=>hs_.val 17) (fun _=>aU (T.wf j) _)<|R1 18<|R2 9 19<|R1 20<|aA.nil
  simp only[dD,Ke.value,aX,Act.put,List.setIfInBounds_toArray,List.set_cons_zero,List.set_cons_succ];have HX1:Hid (Ext w w1):=ai hm_.ext;clear hm_ he_;go_wp2;go_ret;exact⟨by rw[← HR.o];simp[h1p.out,wy],HX1.o⟩
 ·have h1p:=ai h1;obtain rfl:r=false:=by rw[← HR.o];simp[h1]
  clear h1;go_wp2_with fail;refine ay [.val (.pointer (some ⟨p,0,none⟩)),.val (.pointer (some ⟨p,0,none⟩)),.val (.pointer (some ⟨p,0,none⟩)),.val (.pointer (some ⟨p,3,none⟩)),.val (.slice (some oa) P.n oc),.val (.int .i64 (j:Int)),.val (.pointer (some (oa.add j))),.val (.int .i64 (T.o j:Int)),.val (.bool false),.val (.bool false),.off,.off,.off,.off,.off,.off,.off,.off,.off,.off,.val (.bool false),.val (.bool false)] (fun L g W=>True) (S:=fun _=>False) ag ag ag (Mv.refl (Ext.refl w) (fun k h=>h.elim)) ?_ ?_ ?_ ?_ (fun gv_ w1 hm_ he_=>?_)
  ·exact fun _=>trivial
  ·exact fun _ _ _ _ h _=>h
  ·exact fun _ _ _ _ _ _ h=>h
  ·skip
   exact J2 (fun hs_=>hs_.is 1 (.pointer (some ⟨xb,0,none⟩))) (fun hs_=>(hs_.mv.az HBx.o (fun h=>h)).cell (0) HX00.o)<|J2 (fun hs_=>hs_.is 1 (.pointer (some ⟨xb,0,none⟩))) (fun hs_=>(hs_.mv.az HBx.o (fun h=>h)).cell (0) HX00.o)<|R1 1<|R1 2<|J2 (fun hs_=>hs_.val 3) (fun hs_=>(hs_.mv.az HBp.o (fun h=>h)).cell (3) HP0.o.2.2.2.1)<|RI 0 (.int .i64 (j:Int))<|R2 4 5<|J2 (fun hs_=>hs_.val 6) (fun hs_=>ax hs_.mv.ext (HCo.o))<|M2 (fun hs_=>hs_.val 0) (fun hs_=>hs_.val 7) (fun hs_=>aY (n:=P.n) p (T.o j) false _ (hs_.mv.az HBp.o (fun h=>h)) HP0.o.1 (by have:=h1p.out;simp;omega))<|R1 8<|RO<|RO<|RO<|RO<|RO<|RO<|RO<|RO<|RO<|RO<|J2 (fun hs_=>hs_.val 9) (fun hs_=>hs_.un 19)<|R1 20<|aA.nil
  simp only[dD,Ke.value,aX,Act.put,List.setIfInBounds_toArray,List.set_cons_zero,List.set_cons_succ];have HX1:Hid (Ext w w1):=ai hm_.ext;clear hm_ he_;go_wp2;go_ret;exact⟨rfl,HX1.o⟩
theorem lX(vs:Nat->Nat)(is:Nat->Bool)(n fn:Nat)(cp:Array Value)(w:World)(ao_:Option Addr)(ac:Nat)(ha:∀ i,i<n->∃ a,ao_=some a/\w.cell? (a.add i)=some (.int .i64 (vs i:Nat)))(hcl:∀ W,Ext w W->∀ k:Nat,k<n->Calls prog fn (#[.int .i64 (k:Int)] ++ cp) W (aD W (.bool (is k))))(hm:n<=1000000)(hcf:∀ a_ W,(callFunc fn a_).run prog W = .ok (.enter fn a_) W):Calls prog 201 #[.slice ao_ n ac,.func (.func fn) #[] cp] w (aD w (.int .i64 (jD vs is n))):=by
 have HA:=ai ha;have HCL:=ai hcl;clear ha hcl;go_enter func201,ntmps201;go_wp2_with fail;go_loopw [10,5] (fun x0_ x1_ wx=>∃ k:Nat,x0_ = .int .i64 k/\x1_ = .int .i64 (jD vs is k)/\k<=n/\Hid (Ext w wx)) (fun x0_ x1_ _=>n-(intOf x0_).toNat)
 case atStart=>exact⟨0,rfl,rfl,Nat.zero_le _,ai (Ext.refl w)⟩
 case round =>
  rename World=>w1
  obtain⟨k,rfl,rfl,hk,HX0⟩:=hrel;have HX1:Hid (Ext w w1):=HX0;clear HX0;by_cases hlt:k<n
  ·have hlt2:(k:Int)<(n:Int):=ae;obtain⟨aa,rfl,za_⟩:=HA.o k hlt;have HCa:=ai za_;clear za_;have HA1:=ai (fun i (hi:i<n)=>HA.o i hi);rcases iF vs is k with⟨e0,z0⟩|⟨i0,z1,e0,z2⟩
   ·rw[e0];have HE:=ai e0;clear e0 z0;by_cases his:is k=true
    ·have HIS:=ai his;clear his;have ca_k:=ax HX1.o (HCa.o);go_wp2_with fail;refine((HIS.o▸HCL.o _ HX1.o k hlt)).mono ?_;rintro e w2 ⟨rfl,e2⟩;have HX2:=ai (HX1.o.trans e2);clear e2 ca_k;go_wp2_with fail;go_roundw
     case rel=>exact⟨k+1,by go_num,by rw[x9 HIS.o HE.o],ae,ai HX2.o⟩
     case measure=>simp[intOf];omega
    ·have HIS:=ai (Bool.not_eq_true _▸his:is k=false);clear his;have ca_k:=ax HX1.o (HCa.o);go_wp2_with fail;refine((HIS.o▸HCL.o _ HX1.o k hlt)).mono ?_;rintro e w2 ⟨rfl,e2⟩;have HX2:=ai (HX1.o.trans e2);clear e2 ca_k;go_wp2_with fail;go_roundw
     case rel=>exact⟨k+1,by go_num,by rw[Ao HIS.o,HE.o],ae,ai HX2.o⟩
     case measure=>simp[intOf];omega
   ·rw[e0];have HE:=ai e0;have hi0:=z1;clear e0 z1 z2;by_cases his:is k=true
    ·have HIS:=ai his;clear his;have hn0:¬ (i0:Int)<0:=ae;have hi2:(i0:Int)<(n:Int):=ae;have HCi:=ai (xo (HA1.o i0 ae));by_cases hle:vs k<vs i0
     ·have hl2:((vs k:Nat):Int)<((vs i0:Nat):Int):=ae;have HLE:=ai hle;clear hle;have ca_k:=ax HX1.o (HCa.o);go_wp2_with fail;refine((HIS.o▸HCL.o _ HX1.o k hlt)).mono ?_;rintro e w2 ⟨rfl,e2⟩;have HX2:=ai (HX1.o.trans e2);clear e2 ca_k;have ca_i0:=ax HX2.o (HCi.o);go_wp2_with fail;go_roundw
      case rel=>exact⟨k+1,by go_num,by rw[Aq HIS.o HE.o HLE.o],ae,ai HX2.o⟩
      case measure=>simp[intOf];omega
     ·have hl2:¬ ((vs k:Nat):Int)<((vs i0:Nat):Int):=ae;have HLE:=ai hle;clear hle;have ca_k:=ax HX1.o (HCa.o);go_wp2_with fail;refine((HIS.o▸HCL.o _ HX1.o k hlt)).mono ?_;rintro e w2 ⟨rfl,e2⟩;have HX2:=ai (HX1.o.trans e2);clear e2 ca_k;have ca_i0:=ax HX2.o (HCi.o);go_wp2_with fail;go_roundw
      case rel=>exact⟨k+1,by go_num,by rw[Ap HIS.o HE.o HLE.o],ae,ai HX2.o⟩
      case measure=>simp[intOf];omega
    ·have HIS:=ai (Bool.not_eq_true _▸his:is k=false);clear his;have ca_k:=ax HX1.o (HCa.o);go_wp2_with fail;refine((HIS.o▸HCL.o _ HX1.o k hlt)).mono ?_;rintro e w2 ⟨rfl,e2⟩;have HX2:=ai (HX1.o.trans e2);clear e2 ca_k;go_wp2_with fail;go_roundw
     case rel=>exact⟨k+1,by go_num,by rw[Ao HIS.o,HE.o],ae,ai HX2.o⟩
     case measure=>simp[intOf];omega
  ·have hk2:k=n:=ae;have hge:¬ (k:Int)<(n:Int):=ae;rw[show jD vs is k=jD vs is n from by rw[hk2]];go_wp2;go_ret;exact⟨rfl,HX1.o⟩
end Go.Proofs.YtmahadmefplbnaaGreatDoor
