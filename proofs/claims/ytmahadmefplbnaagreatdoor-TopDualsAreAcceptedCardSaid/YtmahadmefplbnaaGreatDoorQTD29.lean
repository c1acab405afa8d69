/- Part 29. -/
import Derived.Test.YtmahadmefplbnaaGreatDoorQTDB
import Derived.Test.YtmahadmefplbnaaGreatDoorQTD28
import Derived.Laws.CopyOwn
import Derived.Deep.OwnRows
import Derived.Deep.CutBlock
set_option maxRecDepth 100000
set_option maxHeartbeats 2000000
open Go.Proofs.Tryz
set_option linter.unusedSimpArgs false
set_option linter.unusedVariables false
namespace Go.Proofs.YtmahadmefplbnaaGreatDoor
open Go Go.RowKit
theorem yv(n:Nat)(hn:n<=1000)(w:World):Calls prog 214 #[.int .u64 1,.int .u64 (n:Int)] w fun e w'=>e = .returned (.tuple #[.int .u64 0,.int .u64 (n:Int)])/\w=w':=by
 have h:=bits_Mul 1 n ae ae w;have e1:1*n / 18446744073709551616=0:=ae;have e2:1*n % 18446744073709551616=n:=ae;rw[e1,e2] at h;exact h.mono (fun _ _ h=>⟨h.1,h.2.symm⟩)
theorem dQ:(prog.info? 34).map (fun i=>(i.zero,i.size,i.bytes))=some (some (.string ⟨#[]⟩),1,16):=ag
theorem r6:(prog.info? 34).map (·.size)=some 1:=ag
theorem AD{w:World}{k:Nat}{z:Value}{t:TypeId}(h:ax w k #[z] t):∀ j v,[z][j]?=some v->w.cell? ((⟨k,0,none⟩:Addr).add j)=some v:=by
 intro j v hv;cases j with
 | zero=>simp only[List.getElem?_cons_zero] at hv;rw[← hv];exact h.cell 0 rfl
 | succ j=>simp at hv
theorem Ext.setRow{X w:World}{k:Nat}{cs cur:Array Value}{t:TypeId}(h:Ext X w)(hk:X.heap.size<=k)(hB:ax w k cur t):Ext X (w.setRow k cs):=below_setRow h hk cs
theorem ax.setRow{w:World}{k:Nat}{cs cur:Array Value}{t:TypeId}(hB:ax w k cur t):ax (w.setRow k cs) k cs t:=⟨setRow_heap w k cur cs t (0,0) hB.out⟩
theorem Mv.setRow{X w W:World}{S:Nat->Prop}{k:Nat}{cs cur:Array Value}{t:TypeId}(h:Mv X w S W)(hk:S k∨w.heap.size<=k)(hB:ax W k cur t):Mv X w S (W.setRow k cs) :=
 ⟨h.ext.setRow (h.le hk) hB,h.base,h.low,by rw[size_setRow];exact h.size,fun q c t' hq hB'=>⟨(setRow_other W k q cs (fun e=>hk.elim (fun hs=>hq (e▸hs)) (fun hs=>by have:=hB'.lt;omega))).trans (h.fr q c t' hq hB').out⟩⟩
theorem AB {P:Program} {w w':World} {o:Oper} {a:Act} {Q:Exit->Act->World->Prop} {K:Act->World->Prop} {d s:Operand} {dT sT:TypeId} {v dv sv:Value} (hgd:o.guard=none)
    (ho:o.op = .call { callee:=.builtin .copy,args:=#[d,s],argTypes:=#[dT,sT] }) (hd:a.eval d=dv) (hs:a.eval s=sv) (hr:(Builtin.copy_ #[dT,sT] o.type #[dv,sv]).run P w = .ok v w')
    (h:K (a.put o.dst v) w'):o.wp P a w K Q:=by
 unfold Oper.wp;simp[execOp,ho,resolve,invoke,builtin,hd,hs,hr,Result.andThen];exact h
theorem Co{c n:Nat}(h:0<c)(h2:c<n):∃ m,m=Nat.min c (n-c)/\m<=c/\m<=n-c/\0<m:=by
 refine⟨_,rfl,Nat.min_le_left _ _,Nat.min_le_right _ _,?_⟩;have:0<min c (n-c):=ae;exact this
theorem xN{n c m:Nat}{z:Value}{CK:Array Value}(hs:CK.size=n)(hcn:c<=n)(hm:m<=n-c):(CK.toList.take c ++ List.replicate m z ++ CK.toList.drop (c+m)).toArray.size=n:=by
 simp[hs];omega
def Mk(w:World)(n:Nat)(z:Value)(t:TypeId)(e:Ending)(w':World):Prop:=∃ (k:Nat) (CZ:Array Value),e = .returned (.slice (some ⟨k,0,none⟩) n n)/\Ext w w'/\w.heap.size<=k/\ax w' k CZ t/\∀ j,j<n->CZ[j]?=some z
theorem Mk.of{w w':World}{n k:Nat}{z:Value}{t:TypeId}{CZ:Array Value}(h1:Ext w w')(h2:w.heap.size<=k)(h3:ax w' k CZ t)(h4:∀ j,j<n->CZ[j]?=some z):Mk w n z t (.returned (.slice (some ⟨k,0,none⟩) n n)) w':=⟨k,CZ,rfl,h1,h2,h3,h4⟩
theorem sZ{n:Nat}{z:Value}{C0:Array Value}(hz:C0.size=n)(hn0:0<n):(z :: C0.toList.tail).toArray.size=n:=by
 simp[hz];omega
theorem s4{z:Value}{C0:Array Value}:∀ j,j<1->(z :: C0.toList.tail).toArray[j]?=some z:=fun j hj=>by
 have:j=0:=ae;subst this;simp
theorem Ak{w:World}{k c m:Nat}{CK:Array Value}{t:TypeId}{z:Value}(h:ax w k CK t)(hc:∀ j,j<c->CK[j]?=some z)(hm:m<=c):∀ j v,(List.replicate m z)[j]?=some v->w.cell? ((⟨k,0,none⟩:Addr).add j)=some v:=by
 intro j v hv;rw[List.getElem?_replicate] at hv;split at hv
 ·rename_i hj;have e:(⟨k,0,none⟩:Addr).add j=⟨k,j,none⟩:=by unfold Addr.add;split <;> simp_all
  rw[e,← hv];exact h.cell j (hc j ae)
 ·cases hv
theorem Am(m:Nat):∀ v ∈ List.replicate m (Value.string ⟨#[48]⟩),v.oneCell'=true:=fun v hv=>by rw[List.eq_of_mem_replicate hv];rfl
theorem xO {n c m:Nat} {z:Value} {CK:Array Value} (hc:∀ j,j<c->CK[j]?=some z) (hs:CK.size=n) (hcn:c<=n) (hm:m<=n-c) (j:Nat) (hj:j<c+m) :
    (CK.toList.take c ++ List.replicate m z ++ CK.toList.drop (c+m)).toArray[j]?=some z:=by
 have hl:(CK.toList.take c).length=c:=by simp[hs];omega
 simp only[List.getElem?_toArray];by_cases h1:j<c
 ·rw[List.append_assoc,List.getElem?_append_left ae,List.getElem?_take,if_pos h1,Array.getElem?_toList];exact hc j h1
 ·rw[List.getElem?_append_left (by simp[hl];omega),List.getElem?_append_right ae,hl,List.getElem?_replicate,if_pos ae]
theorem Al(xb n:Nat)(w:World)(bx:ax w xb #[.string ⟨#[48]⟩] 34)(hn0:0<n)(hn:n<=1000):Calls prog 142 #[.slice (some ⟨xb,0,none⟩) 1 1,.int .i64 (n:Int)] w (Mk w n (.string ⟨#[48]⟩) 34):=by
 have HB:=aj bx;clear bx;have h0:¬ (n:Int)<0:=ae;have hmk:=run_make_row' (P:=prog) 30 34 (.string ⟨#[]⟩) 16 underlying30 dQ rfl .i64 .i64 n ae ae;go_enter func142,ntmps142;go_upto_region 7 with(go_at_call 214;refine(yv n hn w).mono ?_;rintro e _ ⟨rfl,rfl⟩)
 refine ay (fun W=>Ext w W/\ax W xb #[.string ⟨#[48]⟩] 34/\∃ C0,ax W w.heap.size C0 34/\C0.size=n) ⟨(Ext.refl w).alloc _,HB.o.alloc _,_,ax.new _ _ _,size_madeCells _ _⟩ ?_;rintro w1 ⟨e1,b1,C0,b2,hz⟩;go_upto_block 0 with(refine wpList_copy_own rfl (.tmp 31) (.tmp 32) 30 30 rfl 34 underlying30 r6 w.heap.size 0 n n ⟨xb,0,none⟩ 1 1 rfl rfl C0 34 b2.out [.string ⟨#[48]⟩] (by simp[Nat.min_def];omega) (AD b1) (by simp;omega) (by intro v hv;simp at hv;subst hv;rfl) ?_)
 refine ay (fun W=>Ext w W/\∃ C1,ax W w.heap.size C1 34/\C1.size=n/\∀ j,j<1->C1[j]?=some (.string ⟨#[48]⟩)) ⟨e1.setRow (Nat.le_refl _) b2,_,b2.setRow,sZ hz hn0,s4⟩ ?_;clear b1 b2 hz e1 hmk;rintro w2 ⟨e2,C1,b3,hz,hc⟩;have HX2:=aj e2;have HZ1:=aj b3;have HZS:=aj hz;have HZC:=aj hc;clear e2 b3 hz hc;go_wp2_with fail;go_loopw [8] (fun x0_ wx=>∃ c:Nat,x0_ = .int .i64 c/\0<c/\c<=n/\Hid (Ext w wx/\∃ CK,ax wx w.heap.size CK 34/\CK.size=n/\∀ j,j<c->CK[j]?=some (.string ⟨#[48]⟩))) (fun x0_ _=>n-(intOf x0_).toNat)
 case atStart=>exact⟨1,rfl,ae,ae,aj ⟨HX2.o,C1,HZ1.o,HZS.o,HZC.o⟩⟩
 case round =>
  rename World=>w3
  obtain⟨c,rfl,hc0,hc1,HH⟩:=hrel;have HX3:=aj HH.o.1;obtain⟨CK,a1_,a2_,a3_⟩:=HH.o.2;have HBz_3:=aj a1_;have HCS:=aj a2_;have HCK:=aj a3_;clear a1_ a2_ a3_ HH;by_cases hlt:c<n
  ·have hlt2:(c:Int)<(n:Int):=ae;have hne:¬ n=c:=ae;obtain⟨m,em,em1,em2,em3⟩:=Co hc0 hlt;have HEM:=aj em;clear em;go_wp2_with fail;refine aD [.val (.int .i64 (c:Int)),.val (.slice (some ⟨w.heap.size,0,none⟩) n n),.val (.int .i64 (c:Int)),.val (.slice (some ⟨w.heap.size,c,none⟩) (n-c) (n-c)),.val (.slice (some ⟨w.heap.size,0,none⟩) n n),.val (.int .i64 (c:Int)),.val (.slice (some ⟨w.heap.size,0,none⟩) c n),.ev (.int .i64 (m:Int)),.val (.int .i64 (c+m:Int)),.val (.int .i64 (c+m:Int))] (fun L g W=>(if L 7=true then ∃ CD,ax W w.heap.size CD 34/\CD.size=n/\∀ j,j<c+m->CD[j]?=some (.string ⟨#[48]⟩) else ax W w.heap.size CK 34)) (S:=fun k=>k=w.heap.size) ag ag ag (Mv.refl HX3.o (fun k h=>(fun e=>Nat.le_trans (show w.heap.size<=w.heap.size from(Nat.le_refl _)) (Nat.le_of_eq e.symm)) h)) ?_ ?_ ?_ ?_ (fun gv_ w4 hm_ he_=>?_)
   ·exact fun gz_=>(by rw[if_neg af];exact HBz_3.o.drew)
   ·exact fun L g W W1 h e=>aL (h) (fun⟨CD,b,c⟩=>⟨CD,b.ext e,c⟩) (fun h=>h.ext e)
   ·intro i v L g W hi h;have n7_:i≠7:=fun e=>by subst e;exact absurd (show false=true from hi) af
    simp only[av n7_,aw n7_];exact h
   ·skip
    refine RI 8 (.int .i64 (c:Int))<|RI 7 (.slice (some ⟨w.heap.size,0,none⟩) n n)<|RI 8 (.int .i64 (c:Int))<|R2 1 2<|RI 7 (.slice (some ⟨w.heap.size,0,none⟩) n n)<|RI 8 (.int .i64 (c:Int))<|R2 4 5 ?_;refine aB.cons (fun L_ g_ A_ W_ hs_=>?_) ?_
    ·have q41_:=hs_.val 3;have q44_:=hs_.val 6;refine bQ.ev fun K_ hK_=>?_;have n_:=hs_.not;have e_:=hs_.e;rw[if_neg (by rw[n_];decide)] at e_;have HM_:=hs_.mv;have hr_:=run_copy_row (P:=prog) W_ 30 30 3 34 w.heap.size c (n-c) (n-c) ⟨w.heap.size,0,none⟩ c n CK 34 (List.replicate m (.string ⟨#[48]⟩)) underlying30 r6 e_.out (by rw[List.length_replicate];exact HEM.o) (Ak e_ HCK.o em1) (by rw[List.length_replicate,HCS.o];omega) (Am _);refine AB rfl rfl (by go_simp) (by go_simp) hr_ ?_;rw[List.length_replicate];exact hK_.o _ (HM_.setRow (Or.inl rfl) e_) (by rw[aE,if_pos rfl];exact⟨_,e_.setRow,xN HCS.o hc1 em2,xO HCK.o HCS.o hc1 em2⟩)
    refine RV (fun A_ hs_ K_ hK_=>?_) ?_;· have q38_:=hs_.val 0;have q45_:=hs_.ev 7;go_simp;try go_bits;exact dS hK_
    exact R1 8<|aB.nil
   simp only[fT,Ke.value,bD,Act.put,List.setIfInBounds_toArray,List.set_cons_zero,List.set_cons_succ];have HX4:Hid (Ext w w4):=aj hm_.ext;have h_:=(he_);rw[if_pos rfl] at h_;obtain⟨CD,a1_,a2_,a3_⟩:=h_;have HBz_4:=aj a1_;have HDS:=aj a2_;have HCD:=aj a3_;clear a1_ a2_ a3_;clear hm_ he_;go_wp2_with fail;go_roundw
   case rel=>exact⟨c+m,by go_num,ae,ae,aj ⟨HX4.o,CD,HBz_4.o,HDS.o,HCD.o⟩⟩
   case measure=>simp[intOf];omega
  ·have hk2:c=n:=ae;subst hk2;have hge:¬ (c:Int)<(c:Int):=ae;go_wp2;go_ret;exact Mk.of HX3.o (Nat.le_refl _) HBz_3.o HCK.o
theorem xM(xb:Nat)(w:World):Calls prog 142 #[.slice (some ⟨xb,0,none⟩) 1 1,.int .i64 0] w (Mk w 0 (.string ⟨#[48]⟩) 34):=by
 have hmk:=run_make_row' (P:=prog) 30 34 (.string ⟨#[]⟩) 16 underlying30 dQ rfl .i64 .i64 0 ae ae;have hmu:=yv 0 ae;simp only[Int.natCast_zero,Int.cast_ofNat_Int] at hmk hmu;go_enter func142,ntmps142;go_upto_region 7 with(go_at_call 214;refine(hmu w).mono ?_;rintro e _ ⟨rfl,rfl⟩)
 refine ay (fun W=>Ext w W/\∃ C0,ax W w.heap.size C0 34) ⟨(Ext.refl w).alloc _,_,ax.new _ _ _⟩ ?_;rintro w1 ⟨e1,C0,b2⟩;have HX:=aj e1;have HB:=aj b2;clear e1 b2 hmk hmu;go_upto_block 0 with(refine wpList_copy_nothing rfl (.tmp 31) (.tmp 32) 30 30 rfl 34 underlying30 r6 _ _ _ _ _ _ rfl rfl (by simp) ?_)
 go_wp2_with fail;refine wp_loop_rounds 1 ?_;rw[rounds_succ];go_wp2;go_ret;exact Mk.of HX.o (Nat.le_refl _) HB.o (fun j hj=>absurd hj ae)
theorem fe(n:Nat)(hn:n<=1000)(w:World):Calls prog 60 #[.int .i64 n] w (Mk w n (.string ⟨#[48]⟩) 34):=by
 go_enter func60,ntmps60;go_wp2_with fail;have hb:ax (w.alloc (.cells #[.string ⟨#[48]⟩] 34)) w.heap.size #[.string ⟨#[48]⟩] 34:=ax.new _ _ _;by_cases h0:n=0
 ·subst h0;refine(xM _ _).mono ?_;rintro e w1 ⟨k,CZ,rfl,h1,h2,h3,h4⟩;have HH:=aj (Mk.of (z:=.string ⟨#[48]⟩) (n:=0) (((Ext.refl w).alloc _).trans h1) (Nat.le_trans (Nat.le_of_lt (by simp)) h2) h3 h4);clear h1 h2 h3 h4 hb;go_wp2;go_ret;exact HH.o
 ·refine(Al _ n _ hb ae hn).mono ?_;rintro e w1 ⟨k,CZ,rfl,h1,h2,h3,h4⟩;have HH:=aj (Mk.of (n:=n) (((Ext.refl w).alloc _).trans h1) (Nat.le_trans (Nat.le_of_lt (by simp)) h2) h3 h4);clear h1 h2 h3 h4 hb;go_wp2;go_ret;exact HH.o
theorem BE:QB 1 (1:Rat):=QB.int (n:=1) (k:=1) ⟨af⟩ af
theorem Ag(w:World):Calls prog 62 #[.string ⟨#[45,49]⟩] w (aR w (.string (qs 1))):=by
 have h:=gJ (-1) w (QB.int (n:=-1) (k:=1) ⟨af⟩ af) af;have e:qs (-1)=⟨#[45,49]⟩:=jM;rw[e] at h;have e2:-(-1:Rat)=1:=af;rwa[e2] at h
def jC(w:World)(fb:Nat->Nat)(m n:Nat)(g:Nat->Nat->Value)(t:TypeId):Prop:=∀ i,i<m->∃ C,ax w (fb i) C t/\∀ j,j<n->C[j]?=some (g i j)
section
variable {w w' X:World} {S:Nat->Prop} {fb:Nat->Nat} {m n:Nat} {g:Nat->Nat->Value} {t:TypeId}
theorem jC.ext(h:jC w fb m n g t)(e:Ext w w'):jC w' fb m n g t:=fun i hi=>let ⟨C,a,b⟩:=h i hi;⟨C,a.ext e,b⟩
theorem jC.alloc(h:jC w fb m n g t)(o:Obj):jC (w.alloc o) fb m n g t:=h.ext ((Ext.refl _).alloc o)
theorem jC.drew(h:jC w fb m n g t):jC w.drew fb m n g t:=h.ext (Ext.refl _).drew
theorem jC.other(h:jC w fb m n g t){a:Addr}(u:Value)(hk:∀ i,i<m->fb i≠a.block):jC (w.setCell a u) fb m n g t:=fun i hi=>let ⟨C,a,b⟩:=h i hi;⟨C,a.other u (hk i hi),b⟩
theorem jC.mv(h:jC w fb m n g t)(hm:Mv X w S w')(hk:∀ i,i<m->¬ S (fb i)):jC w' fb m n g t:=fun i hi=>let ⟨C,a,b⟩:=h i hi;⟨C,hm.aF a (hk i hi),b⟩
theorem dE{N k:Nat}(h:∀ i,i<m->fb i<N)(hk:N<=k):∀ i,i<m->fb i≠k:=fun i hi e=>by have:=h i hi;omega
theorem jC.cell(h:jC w fb m n g t){i j:Nat}(hi:i<m)(hj:j<n):w.cell? ⟨fb i,j,none⟩=some (g i j):=let ⟨C,a,b⟩:=h i hi;a.cell j (b j hj)
end
structure TM where
 bb:Nat
 bc:Nat
 lb:Nat
 lc:Nat
 ob:Nat
 oc:Nat
 wb:Nat
 wcap:Nat
 fb:Nat->Nat
 fc:Nat->Nat
 bx:Option Addr
 lx:Option Addr
 ox:Option Addr
 wx:Option Addr
 fx:Nat->Option Addr
def oa(n k:Nat)(x:Option Addr):Option Addr:=if 0<n then some ⟨k,0,none⟩ else x
theorem gm{n k:Nat}{x:Option Addr}(h:0<n):oa n k x=some ⟨k,0,none⟩:=if_pos h
def TM.S(M:TM)(p m:Nat)(k:Nat):Prop:=k=p∨k=M.bb∨k=M.lb∨k=M.ob∨k=M.wb∨∃ i,i<m/\k=M.fb i
def p9(P:LP)(T:aO)(M:TM)(CP:Array Value):Prop :=
 CP[0]?=some (.int .i64 (P.n:Int))/\CP[1]?=some (.slice (oa P.m M.bb M.bx) P.m M.bc)/\CP[2]?=some (.slice (oa P.m M.lb M.lx) P.m M.lc)/\CP[3]?=some (.slice (oa P.n M.ob M.ox) P.n M.oc) /\
 CP[4]?=some (.string (qs T.wc))/\CP[5]?=some (.slice (oa P.n M.wb M.wx) P.n M.wcap)
def zH(P:LP)(T:aO)(M:TM)(CL:Array Value):Prop:=∀ i,i<P.m->CL[i*2]?=some (.string (qs (T.c i)))/\CL[i*2+1]?=some (.slice (oa P.n (M.fb i) (M.fx i)) P.n (M.fc i))
structure Ef(P:LP)(M:TM):Prop where
 b:P.m<=M.bc/\M.bc<=maxLen
 l:P.m<=M.lc/\M.lc<=maxLen
 o:P.n<=M.oc/\M.oc<=maxLen
 w:P.n<=M.wcap/\M.wcap<=maxLen
 f:∀ i,i<P.m->P.n<=M.fc i/\M.fc i<=maxLen
structure p8(P:LP)(T:aO)(p:Nat)(M:TM)(w:World):Prop where
 tab:∃ CP,ax w p CP 185/\p9 P T M CP
 jA:0<P.m->∃ CB,ax w M.bb CB 3/\∀ i,i<P.m->CB[i]?=some (.int .i64 (T.b i:Int))
 lin:0<P.m->∃ CL,ax w M.lb CL 182/\zH P T M CL
 oth:0<P.n->∃ CO,ax w M.ob CO 3/\∀ j,j<P.n->CO[j]?=some (.int .i64 (T.o j:Int))
 wor:0<P.n->∃ CW,ax w M.wb CW 34/\∀ j,j<P.n->CW[j]?=some (.string (qs (T.wf j)))
 j1:0<P.n->jC w M.fb P.m P.n (fun i j => .string (qs (T.f i j))) 34
 inj:0<P.n->∀ i i',i<P.m->i'<P.m->M.fb i=M.fb i'->i=i'
 fw:0<P.n->∀ i,i<P.m->M.fb i≠M.wb
 bo:0<P.m->0<P.n->M.bb≠M.ob
 caps:Ef P M
theorem ax.ne{w:World}{k k':Nat}{cs cs':Array Value}{t t':TypeId}(h:ax w k cs t)(h':ax w k' cs' t')(ht:t≠t'):k≠k':=fun e=>by
 subst e;have:=h.out.symm.trans h'.out;simp only[Option.some.injEq,Obj.cells.injEq] at this;exact ht this.2.1
def pc(T:aO)(row at_ k i:Nat):Rat:=if i<k/\i≠row then T.c i+T.f i at_*T.j8 row at_ else T.c i
def pf(T:aO)(row at_ k i j:Nat):Rat:=if i<k/\i≠row then(if j=at_ then 0 else T.f i j)+T.f i at_*T.jz row at_ j else T.f i j
theorem jm{T:aO}{row at_ k i:Nat}(h:¬ (i<k/\i≠row)):pc T row at_ k i=T.c i:=if_neg h
theorem kn{T:aO}{row at_ k i j:Nat}(h:¬ (i<k/\i≠row)):pf T row at_ k i j=T.f i j:=if_neg h
theorem ko{T:aO}{row at_ k i:Nat}(h:i<k/\i≠row):pc T row at_ k i=T.c i+T.f i at_*T.j8 row at_:=if_pos h
theorem km{T:aO}{row at_ k i j:Nat}(h:i<k/\i≠row):pf T row at_ k i j=(if j=at_ then 0 else T.f i j)+T.f i at_*T.jz row at_ j:=if_pos h
def qd(P:LP)(T:aO)(M:TM)(row at_ k:Nat)(C:Array Value):Prop:=∀ i,i<P.m->C[i*2]?=some (.string (qs (pc T row at_ k i)))/\C[i*2+1]?=some (.slice (some ⟨M.fb i,0,none⟩) P.n (M.fc i))
section
variable {P:LP} {T:aO} {M:TM} {row at_ k:Nat} {C D:Array Value} {w w' X:World}
theorem qd.start(h:∀ i,i<P.m->C[i*2]?=some (.string (qs (T.c i)))/\C[i*2+1]?=some (.slice (some ⟨M.fb i,0,none⟩) P.n (M.fc i))):qd P T M row at_ 0 C:=fun i hi=>⟨by rw[jm ae];exact(h i hi).1,(h i hi).2⟩
theorem qd.skip(hk:k=row)(h:qd P T M row at_ k C):qd P T M row at_ (k+1) C:=fun i hi=>⟨by
 rw[(h i hi).1];by_cases hc:i<k/\i≠row
 ·rw[ko hc,ko ae]
 ·rw[jm hc,jm ae],(h i hi).2⟩
theorem qd.now(h:qd P T M row at_ k C)(hk:k<P.m):C[k*2]?=some (.string (qs (T.c k))):=by rw[(h k hk).1,jm ae]
theorem qd.D0(h:qd P T M row at_ k C)(hk:row<P.m):C[row*2]?=some (.string (qs (T.c row))):=by rw[(h row hk).1,jm ae]
theorem qd.step(hk:¬ k=row)(h:qd P T M row at_ k C)(h1:D[k*2]?=some (.string (qs (T.c k+T.f k at_*T.j8 row at_))))(h2:∀ i,i≠k*2->D[i]?=C[i]?):qd P T M row at_ (k+1) D:=fun i hi=>⟨by
 by_cases hik:i=k
 ·subst hik;rw[h1,ko ae]
 ·rw[h2 (i*2) ae,(h i hi).1];by_cases hc:i<k/\i≠row
  ·rw[ko hc,ko ae]
  ·rw[jm hc,jm ae],by rw[h2 (i*2+1) ae];exact(h i hi).2⟩
theorem PvF.start{t:TypeId}(h:jC w M.fb P.m P.n (fun i j => .string (qs (T.f i j))) t):jC w M.fb P.m P.n (fun i j => .string (qs (pf T row at_ 0 i j))) t:=fun i hi =>
 let ⟨C,a,b⟩:=h i hi;⟨C,a,fun j hj=>by show C[j]?=some (.string (qs (pf T row at_ 0 i j)));rw[kn ae];exact b j hj⟩
theorem PvF.skip{t:TypeId}(hk:k=row)(h:jC w M.fb P.m P.n (fun i j => .string (qs (pf T row at_ k i j))) t):jC w M.fb P.m P.n (fun i j => .string (qs (pf T row at_ (k+1) i j))) t:=fun i hi =>
 let ⟨C,a,b⟩:=h i hi;⟨C,a,fun j hj=>by
  have:C[j]?=some (.string (qs (pf T row at_ k i j))):=b j hj;show C[j]?=some (.string (qs (pf T row at_ (k+1) i j)));by_cases hc:i<k/\i≠row
  ·rw[km hc] at this;rw[km ae];exact this
  ·rw[kn hc] at this;rw[kn ae];exact this⟩
theorem PvF.Ev{t:TypeId}(h:jC w M.fb P.m P.n (fun i j => .string (qs (pf T row at_ k i j))) t)(hk:k<P.m):∃ C,ax w (M.fb k) C t/\∀ j,j<P.n->C[j]?=some (.string (qs (T.f k j))) :=
 let ⟨C,a,b⟩:=h k hk;⟨C,a,fun j hj=>by have:C[j]?=some (.string (qs (pf T row at_ k k j))):=b j hj;rwa[kn ae] at this⟩
theorem PvF.step {t : TypeId} (hm : Mv X w (fun q => q = M.lb ∨ q = M.fb k) w') (inj : ∀ i i', i < P.m -> i' < P.m -> M.fb i = M.fb i' -> i = i') (hlt : k < P.m) (hk : ¬ k = row) (h : jC w M.fb P.m P.n (fun i j => .string (qs (pf T row at_ k i j))) t) (hl : ∀ i, i < P.m -> M.fb i ≠ M.lb)
    (hB:ax w' (M.fb k) D t) (hD:∀ j,j<P.n->D[j]?=some (.string (qs ((if j=at_ then 0 else T.f k j)+T.f k at_*T.jz row at_ j)))):jC w' M.fb P.m P.n (fun i j => .string (qs (pf T row at_ (k+1) i j))) t:=fun i hi=>by
 by_cases hik:i=k
 ·subst hik;exact⟨D,hB,fun j hj=>by show D[j]?=some (.string (qs (pf T row at_ (i+1) i j)));rw[km ae];exact hD j hj⟩
 ·obtain⟨C,a,b⟩:=h i hi;refine⟨C,hm.aF a (fun e=>e.elim (hl i hi) (fun e=>hik (inj i k hi hlt e))),fun j hj=>?_⟩;have:C[j]?=some (.string (qs (pf T row at_ k i j))):=b j hj;show C[j]?=some (.string (qs (pf T row at_ (k+1) i j)));by_cases hc:i<k/\i≠row
  ·rw[km hc] at this;rw[km ae];exact this
  ·rw[kn hc] at this;rw[kn ae];exact this
theorem rK {n:Nat} {f:Nat->Rat} {x:Rat} (h:∀ j,j<n->C[j]?=some (.string (qs (if j<k then f j else 0)))) (hk:k<n) (hx:x=f k) (j:Nat) (hj:j<n) :
    (C.setIfInBounds k (.string (qs x)))[j]?=some (.string (qs (if j<k+1 then f j else 0))):=by
 by_cases e:j=k
 ·subst e;rw[if_pos ae,← hx];exact gI (h j hj)
 ·rw[eR (Ne.symm e) (h j hj)];by_cases h1:j<k
  ·rw[if_pos h1,if_pos ae]
  ·rw[if_neg h1,if_neg ae]
end
def TM.mn(M:TM)(row kz n:Nat):TM:={ M with fb:=fun i=>if i=row then kz else M.fb i,fc:=fun i=>if i=row then n else M.fc i }
section
variable {P:LP} {T:aO} {M:TM} {row at_ k kz p:Nat} {w:World}
theorem Ay {CP CB CO CK CY CW:Array Value} (hp:CP[0]?=some (.int .i64 (P.n:Int))/\CP[1]?=some (.slice (some ⟨M.bb,0,none⟩) P.m M.bc)/\CP[2]?=some (.slice (some ⟨M.lb,0,none⟩) P.m M.lc)/\CP[3]?=some (.slice (some ⟨M.ob,0,none⟩) P.n M.oc) /\
    CP[4]?=some (.string (qs (T.wc+T.wf at_*T.j8 row at_)))/\CP[5]?=some (.slice (some ⟨M.wb,0,none⟩) P.n M.wcap)) (bp:ax w p CP 185)
    (bb:ax w M.bb (CB.setIfInBounds row (.int .i64 (T.o at_:Int))) 3) (hb:∀ i,i<P.m->CB[i]?=some (.int .i64 (T.b i:Int))) (bo:ax w M.ob (CO.setIfInBounds at_ (.int .i64 (T.b row:Int))) 3) (ho:∀ j,j<P.n->CO[j]?=some (.int .i64 (T.o j:Int)))
    (bl:ax w M.lb ((CK.setIfInBounds (row*2) (.string (qs (T.j8 row at_)))).setIfInBounds (row*2+1) (.slice (some ⟨kz,0,none⟩) P.n P.n)) 182) (hl:qd P T M row at_ k CK) (hk:k=P.m) (hf:jC w M.fb P.m P.n (fun i j => .string (qs (pf T row at_ k i j))) 34)
    (bz:ax w kz CY 34) (hz:∀ j,j<P.n->CY[j]?=some (.string (qs (T.jz row at_ j)))) (bw:ax w M.wb CW 34) (hw:∀ j,j<P.n->CW[j]?=some (.string (qs ((if j=at_ then 0 else T.wf j)+T.wf at_*T.jz row at_ j)))) (hr:row<P.m) (ha:at_<P.n)
    (inj:∀ i i',i<P.m->i'<P.m->M.fb i=M.fb i'->i=i') (fw:∀ i,i<P.m->M.fb i≠M.wb) (hbo:M.bb≠M.ob) (zn:∀ i,i<P.m->M.fb i≠kz) (zw:kz≠M.wb) (hcp:Ef P M) (hnm:P.n<=maxLen):p8 P (T.aG row at_) p (M.mn row kz P.n) w where
 tab:=⟨CP,bp,by
  have hm0:0<P.m:=ae;have hn0:0<P.n:=ae;simp only[p9,TM.mn,gm hm0,gm hn0];exact hp⟩
 caps:=⟨hcp.b,hcp.l,hcp.o,hcp.w,fun i hi=>by
  simp only[TM.mn];split
  ·exact⟨Nat.le_refl _,hnm⟩
  ·exact hcp.f i hi⟩
 jA:=fun _=>⟨_,bb,fun i hi=>by
  by_cases e:i=row
  ·subst e;simp only[aO.aG,if_true];exact gI (hb i hi)
  ·simp only[aO.aG,if_neg e];exact eR (Ne.symm e) (hb i hi)⟩
 lin:=fun _=>⟨_,bl,fun i hi=>by
  have hn0:0<P.n:=ae;simp only[gm hn0];by_cases e:i=row
  ·subst e;simp only[aO.aG,TM.mn,if_true];exact⟨eR ae (gI (hl i hi).1),gI (eR ae (hl i hi).2)⟩
  ·simp only[aO.aG,TM.mn,if_neg e];refine⟨eR ae (eR ae ?_),eR ae (eR ae (hl i hi).2)⟩;have:=(hl i hi).1;rwa[ko ae] at this⟩
 oth:=fun _=>⟨_,bo,fun j hj=>by
  by_cases e:j=at_
  ·subst e;simp only[aO.aG,if_true];exact gI (ho j hj)
  ·simp only[aO.aG,if_neg e];exact eR (Ne.symm e) (ho j hj)⟩
 wor:=fun _=>⟨CW,bw,hw⟩
 j1:=fun _ i hi=>by
  by_cases e:i=row
  ·subst e;simp only[aO.aG,TM.mn,if_true];exact⟨CY,bz,hz⟩
  ·simp only[aO.aG,TM.mn,if_neg e];obtain⟨C,a,b⟩:=hf i hi;exact⟨C,a,fun j hj=>by have:C[j]?=some (.string (qs (pf T row at_ k i j))):=b j hj;rwa[km ae] at this⟩
 inj:=fun _ i i' hi hi' e=>by
  simp only[TM.mn] at e;split at e <;> split at e
  ·omega
  ·exact absurd e.symm (zn i' hi')
  ·exact absurd e (zn i hi)
  ·exact inj i i' hi hi' e
 fw:=fun _ i hi=>by
  simp only[TM.mn];split
  ·exact zw
  ·exact fw i hi
 bo:=fun _ _=>hbo
end
theorem Ax(P:LP)(T:aO)(p:Nat)(M:TM)(row at_ q:Nat)(X w:World)(g:Gd X)(hX:Ext X w)(xl:∀ k,M.S p P.m k->X.heap.size<=k)(hT:p8 P T p M w)(hr:row<P.m)(ha:at_<P.n)(hk0:T.f row at_≠0)(hn:P.n<=1000)(hm:P.m<=1000)(hq1:1<=q)(hq2:q<=400)(qc:∀ i,i<P.m->QB q (T.c i))(qf:∀ i,i<P.m->∀ j,j<P.n->QB q (T.f i j))(qwc:QB q T.wc)(qw:∀ j,j<P.n->QB q (T.wf j)):Calls prog 200 #[.pointer (some ⟨p,0,none⟩),.int .i64 (row:Int),.int .i64 (at_:Int)] w (fun e w'=>e = .returned (.tuple #[])/\Mv X w (M.S p P.m) w'/\∃ kz,w.heap.size<=kz/\p8 P (T.aG row at_) p (M.mn row kz P.n) w'):=by
 have HG:=aj g;have HK:=aj hk0;have HR:=aj hr;have HA:=aj ha;have HQc:=aj qc;have HQf:=aj qf;have HQwc:=aj qwc;have HQw:=aj qw;clear g hk0 hr ha qc qf qwc qw;have hm0:0<P.m:=by have:=HR.o;omega
 have hn0:0<P.n:=by have:=HA.o;omega
 obtain⟨CP,b1,c1⟩:=hT.tab;obtain⟨CB,b2,c2⟩:=hT.jA hm0;obtain⟨CL,b3,c3⟩:=hT.lin hm0;obtain⟨CO,b4,c4⟩:=hT.oth hn0;obtain⟨CW,b5,c5⟩:=hT.wor hn0;have hfac:=hT.j1 hn0;simp only[p9,gm hm0,gm hn0] at c1;simp only[zH,gm hn0] at c3;have HCAP:=aj hT.caps;have HBp:=aj b1;have HP0:Hid (_/\_/\_/\_/\_/\_):=aj c1;have HBb:=aj b2;have HCB:=aj c2;have HBl:=aj b3;have HCL:=aj c3;have HBo:=aj b4;have HCO:=aj c4;have HBw:=aj b5;have HCW:=aj c5;have HBF:=aj hfac;have HINJ:=aj (hT.inj hn0);have HFW:=aj (hT.fw hn0);have HN7:=aj (hT.bo hm0 hn0);have HN1:=aj (b1.ne b2 af);have HN2:=aj (b1.ne b3 af);have HN3:=aj (b1.ne b4 af);have HN4:=aj (b1.ne b5 af);have HN6:=aj (b2.ne b3 af);have HN8:=aj (b2.ne b5 af);have HN10:=aj (b3.ne b4 af);have HN11:=aj (b3.ne b5 af);have HN13:=aj (b4.ne b5 af);have HFP:Hid (∀ i,i<P.m->M.fb i≠p):=aj (fun i hi=>let ⟨_,b,_⟩:=hfac i hi;b.ne b1 af);have HFBB:Hid (∀ i,i<P.m->M.fb i≠M.bb):=aj (fun i hi=>let ⟨_,b,_⟩:=hfac i hi;b.ne b2 af);have HFL:Hid (∀ i,i<P.m->M.fb i≠M.lb):=aj (fun i hi=>let ⟨_,b,_⟩:=hfac i hi;b.ne b3 af);have HFO:Hid (∀ i,i<P.m->M.fb i≠M.ob):=aj (fun i hi=>let ⟨_,b,_⟩:=hfac i hi;b.ne b4 af);have HFLT:Hid (∀ i,i<P.m->M.fb i<w.heap.size):=aj (fun i hi=>let ⟨_,b,_⟩:=hfac i hi;b.lt);have HX0:Hid (Mv X w (M.S p P.m) w):=aj (Mv.refl hX xl);have HLO:Hid (X.heap.size<=p/\X.heap.size<=M.bb/\X.heap.size<=M.lb/\X.heap.size<=M.ob/\X.heap.size<=M.wb/\∀ i,i<P.m->X.heap.size<=M.fb i):=aj ⟨xl _ (Or.inl rfl),xl _ (Or.inr (Or.inl rfl)),xl _ (Or.inr (Or.inr (Or.inl rfl))),xl _ (Or.inr (Or.inr (Or.inr (Or.inl rfl)))),xl _ (Or.inr (Or.inr (Or.inr (Or.inr (Or.inl rfl))))),fun i hi=>xl _ (Or.inr (Or.inr (Or.inr (Or.inr (Or.inr ⟨i,hi,rfl⟩)))))⟩;have HQb:Hid (QB (q+q) (T.j8 row at_)):=aj ((HQc.o row HR.o).neg.div (HQf.o row HR.o at_ HA.o) hq1);have HQbf:Hid (∀ j,j<P.n->QB (q+q) (T.jz row at_ j)):=aj (fun j hj=>QB.div (by split;exact(BE.neg.mono hq1).neg;exact(HQf.o row HR.o j hj).neg) (HQf.o row HR.o at_ HA.o) hq1);have hr2:(row:Int)<(P.m:Int):=by have:=HR.o;omega
 have ha2:(at_:Int)<(P.n:Int):=by have:=HA.o;omega
 clear hfac hm0 hn0 hX xl hT b1 b2 b3 b4 b5 c1 c2 c3 c4 c5;go_enter func200,ntmps200;have cp_2:=HBp.o.cell (2) HP0.o.2.2.1;have cl_row___2:=HBl.o.cell (row*2) ((HCL.o row HR.o).1);have cl_row___2___1:=HBl.o.cell (row*2+1) ((HCL.o row HR.o).2);go_upto_region 1 with fail
 refine ay (fun W=>Mv X w (M.S p P.m) W/\ax W (p) (CP) 185/\ax W (M.bb) (CB) 3/\ax W (M.lb) (CL) 182/\ax W (M.ob) (CO) 3/\ax W (M.wb) (CW) 34/\jC W M.fb P.m P.n (fun i j => .string (qs (T.f i j))) 34/\ax W (w.heap.size) (#[.string (qs (T.c row)),.slice (some ⟨M.fb row,0,none⟩) P.n (M.fc row)]) 182) ⟨(HX0.o.alloc _),(HBp.o.alloc _),(HBb.o.alloc _),(HBl.o.alloc _),(HBo.o.alloc _),(HBw.o.alloc _),(HBF.o.alloc _),(ax.nw (#[.string (qs (T.c row)),.slice (some ⟨M.fb row,0,none⟩) P.n (M.fc row)]) 182)⟩ ?_;rintro w1 ⟨e1,bBp_1,bBb_1,bBl_1,bBo_1,bBw_1,bBF_1,bB0_1⟩;have HX1:=aj e1;have HBp_1:=aj bBp_1;have HBb_1:=aj bBb_1;have HBl_1:=aj bBl_1;have HBo_1:=aj bBo_1;have HBw_1:=aj bBw_1;have HBF_1:=aj bBF_1;have HB0_1:=aj bB0_1;have HGEB0:Hid (w.heap.size<=w.heap.size):=aj (Nat.le_refl _);clear e1 bBp_1 bBb_1 bBl_1 bBo_1 bBw_1 bBF_1 bB0_1 cp_2 cl_row___2 cl_row___2___1;have c0_1:=HB0_1.o.cell 1 rfl;have cF_row_at_:=HBF_1.o.cell (HR.o) (HA.o);have cp_3:=HBp_1.o.cell (3) HP0.o.2.2.2.1;go_wp2_with fail;refine(fe P.n ae _).mono ?_;rintro e w2 ⟨kz,CZ,rfl,e2,g_,b_,c_⟩;have HNBpBz:Hid (p≠kz):=aj (Nat.ne_of_lt (Nat.lt_of_lt_of_le HBp_1.o.lt g_));have HNBbBz:Hid (M.bb≠kz):=aj (Nat.ne_of_lt (Nat.lt_of_lt_of_le HBb_1.o.lt g_));have HNBlBz:Hid (M.lb≠kz):=aj (Nat.ne_of_lt (Nat.lt_of_lt_of_le HBl_1.o.lt g_));have HNBoBz:Hid (M.ob≠kz):=aj (Nat.ne_of_lt (Nat.lt_of_lt_of_le HBo_1.o.lt g_));have HNBwBz:Hid (M.wb≠kz):=aj (Nat.ne_of_lt (Nat.lt_of_lt_of_le HBw_1.o.lt g_));have HNB0Bz:Hid (w.heap.size≠kz):=aj (Nat.ne_of_lt (Nat.lt_of_lt_of_le HB0_1.o.lt g_));have HGEBz:Hid (w.heap.size<=kz):=aj (Nat.le_trans HX1.o.size g_);have HX2:=aj (HX1.o.trans e2);have HBp_2:=aj (HBp_1.o.ext e2);have HBb_2:=aj (HBb_1.o.ext e2);have HBl_2:=aj (HBl_1.o.ext e2);have HBo_2:=aj (HBo_1.o.ext e2);have HBw_2:=aj (HBw_1.o.ext e2);have HBF_2:=aj (HBF_1.o.ext e2);have HB0_2:=aj (HB0_1.o.ext e2);clear e2 c0_1 cF_row_at_ cp_3;have HBz_2:=aj b_;have HCBz:=aj c_;clear g_ b_ c_;go_upto_region 3 with fail
 refine ay (fun W=>Mv X w (M.S p P.m) W/\ax W (p) (CP) 185/\ax W (M.bb) (CB) 3/\ax W (M.lb) (CL) 182/\ax W (M.ob) (CO) 3/\ax W (M.wb) (CW) 34/\jC W M.fb P.m P.n (fun i j => .string (qs (T.f i j))) 34/\ax W (w.heap.size) (#[.string (qs (T.c row)),.slice (some ⟨M.fb row,0,none⟩) P.n (M.fc row)]) 182/\ax W (kz) (CZ) 34/\ax W (w2.heap.size) (#[.string ⟨#[]⟩,.slice (some ⟨kz,0,none⟩) P.n P.n]) 182) ⟨(HX2.o.alloc _),(HBp_2.o.alloc _),(HBb_2.o.alloc _),(HBl_2.o.alloc _),(HBo_2.o.alloc _),(HBw_2.o.alloc _),(HBF_2.o.alloc _),(HB0_2.o.alloc _),(HBz_2.o.alloc _),(ax.nw (#[.string ⟨#[]⟩,.slice (some ⟨kz,0,none⟩) P.n P.n]) 182)⟩ ?_;rintro w3 ⟨e3,bBp_3,bBb_3,bBl_3,bBo_3,bBw_3,bBF_3,bB0_3,bBz_3,bB1_3⟩;have HX3:=aj e3;have HBp_3:=aj bBp_3;have HBb_3:=aj bBb_3;have HBl_3:=aj bBl_3;have HBo_3:=aj bBo_3;have HBw_3:=aj bBw_3;have HBF_3:=aj bBF_3;have HB0_3:=aj bB0_3;have HBz_3:=aj bBz_3;have HB1_3:=aj bB1_3;have HGEB1:Hid (w.heap.size<=w2.heap.size):=aj (HX2.o.size);clear e3 bBp_3 bBb_3 bBl_3 bBo_3 bBw_3 bBF_3 bB0_3 bBz_3 bB1_3;have c0_0:=HB0_3.o.cell 0 rfl;go_wp2_with fail;refine cto (gJ (T.c row) _ (HQc.o row HR.o) ae) fun w4 e4=>?_
 have HX4:=aj (HX3.o.trans e4);have HBp_4:=aj (HBp_3.o.ext e4);have HBb_4:=aj (HBb_3.o.ext e4);have HBl_4:=aj (HBl_3.o.ext e4);have HBo_4:=aj (HBo_3.o.ext e4);have HBw_4:=aj (HBw_3.o.ext e4);have HBF_4:=aj (HBF_3.o.ext e4);have HB0_4:=aj (HB0_3.o.ext e4);have HBz_4:=aj (HBz_3.o.ext e4);have HB1_4:=aj (HB1_3.o.ext e4);clear e4 c0_0;go_wp2_with fail;refine cto (lY (-T.c row) (T.f row at_) _ (HG.o.ext (HX4.o.ext)) (HQc.o row HR.o).neg (HQf.o row HR.o at_ HA.o) ae ae ae HK.o) fun w5 e5=>?_
 have HX5:=aj (HX4.o.trans e5);have HBp_5:=aj (HBp_4.o.ext e5);have HBb_5:=aj (HBb_4.o.ext e5);have HBl_5:=aj (HBl_4.o.ext e5);have HBo_5:=aj (HBo_4.o.ext e5);have HBw_5:=aj (HBw_4.o.ext e5);have HBF_5:=aj (HBF_4.o.ext e5);have HB0_5:=aj (HB0_4.o.ext e5);have HBz_5:=aj (HBz_4.o.ext e5);have HB1_5:=aj (HB1_4.o.ext e5);clear e5;have c1_0:=HB1_5.o.cell 0 rfl;have f1_0:=HB1_5.o.free 0;go_upto_region 4 with fail
 refine ay (fun W=>Mv X w (M.S p P.m) W/\ax W (p) (CP) 185/\ax W (M.bb) (CB) 3/\ax W (M.lb) (CL) 182/\ax W (M.ob) (CO) 3/\ax W (M.wb) (CW) 34/\jC W M.fb P.m P.n (fun i j => .string (qs (T.f i j))) 34/\ax W (w.heap.size) (#[.string (qs (T.c row)),.slice (some ⟨M.fb row,0,none⟩) P.n (M.fc row)]) 182/\ax W (kz) (CZ) 34/\ax W (w2.heap.size) (#[.string (qs (-T.c row / T.f row at_)),.slice (some ⟨kz,0,none⟩) P.n P.n]) 182) ⟨(HX5.o.setCell (Or.inr (HGEB1.o)) _),(HBp_5.o.other (a:=⟨w2.heap.size,0,none⟩) _ (by have:=HBp_2.o.lt;first|omega|(simp only[];omega)|(simp;omega))),(HBb_5.o.other (a:=⟨w2.heap.size,0,none⟩) _ (by have:=HBb_2.o.lt;first|omega|(simp only[];omega)|(simp;omega))),(HBl_5.o.other (a:=⟨w2.heap.size,0,none⟩) _ (by have:=HBl_2.o.lt;first|omega|(simp only[];omega)|(simp;omega))),(HBo_5.o.other (a:=⟨w2.heap.size,0,none⟩) _ (by have:=HBo_2.o.lt;first|omega|(simp only[];omega)|(simp;omega))),(HBw_5.o.other (a:=⟨w2.heap.size,0,none⟩) _ (by have:=HBw_2.o.lt;first|omega|(simp only[];omega)|(simp;omega))),(HBF_5.o.other (a:=⟨w2.heap.size,0,none⟩) _ ((dE HFLT.o (show w.heap.size<=w2.heap.size from HGEB1.o)))),(HB0_5.o.other (a:=⟨w2.heap.size,0,none⟩) _ (Nat.ne_of_lt HB0_2.o.lt)),(HBz_5.o.other (a:=⟨w2.heap.size,0,none⟩) _ (by have:=HBz_2.o.lt;first|omega|(simp only[];omega)|(simp;omega))),(HB1_5.o.set 0 (.string (qs (-T.c row / T.f row at_))))⟩ ?_;rintro w6 ⟨e6,bBp_6,bBb_6,bBl_6,bBo_6,bBw_6,bBF_6,bB0_6,bBz_6,bB1_6⟩;have HX6:=aj e6;have HBp_6:=aj bBp_6;have HBb_6:=aj bBb_6;have HBl_6:=aj bBl_6;have HBo_6:=aj bBo_6;have HBw_6:=aj bBw_6;have HBF_6:=aj bBF_6;have HB0_6:=aj bB0_6;have HBz_6:=aj bBz_6;have HB1_6:=aj bB1_6;clear e6 bBp_6 bBb_6 bBl_6 bBo_6 bBw_6 bBF_6 bB0_6 bBz_6 bB1_6 c1_0 f1_0;have c0_1:=HB0_6.o.cell 1 rfl;go_wp2_with fail;clear c0_1;go_wp2_with fail;go_loopw [43] (fun x0_ wx=>∃ k:Nat,x0_ = .int .i64 k/\k<=P.n/\Hid (Mv X w6 (fun q=>q=kz) wx/\∃ CK,ax wx kz CK 34/\∀ j,j<P.n->CK[j]?=some (.string (qs (if j<k then T.jz row at_ j else 0))))) (fun x0_ _=>P.n-(intOf x0_).toNat)
 case atStart=>exact⟨0,rfl,Nat.zero_le _,aj ⟨Mv.refl HX6.o.ext (fun q h=>by rw[h];exact Nat.le_trans HX6.o.base HGEBz.o),_,HBz_6.o,fun j hj=>by rw[if_neg (Nat.not_lt_zero _),cX];exact HCBz.o j hj⟩⟩
 case round =>
  rename World=>w7
  obtain⟨k,rfl,hk,HH⟩:=hrel;have HM7:=aj HH.o.1;obtain⟨CK,a1_,a2_⟩:=HH.o.2;have HBz_7:=aj a1_;have HCK:=aj a2_;clear a1_ a2_ HH;have HBp_7:=aj (HM7.o.aF HBp_6.o (fun h=>((show p≠kz from HNBpBz.o)) h));have HBb_7:=aj (HM7.o.aF HBb_6.o (fun h=>((show M.bb≠kz from HNBbBz.o)) h));have HBl_7:=aj (HM7.o.aF HBl_6.o (fun h=>((show M.lb≠kz from HNBlBz.o)) h));have HBo_7:=aj (HM7.o.aF HBo_6.o (fun h=>((show M.ob≠kz from HNBoBz.o)) h));have HBw_7:=aj (HM7.o.aF HBw_6.o (fun h=>((show M.wb≠kz from HNBwBz.o)) h));have HBF_7:=aj (HBF_6.o.mv HM7.o (fun i hi h=>(((dE HFLT.o (show w.heap.size<=kz from HGEBz.o))) i hi) h));have HB0_7:=aj (HM7.o.aF HB0_6.o (fun h=>((show w.heap.size≠kz from HNB0Bz.o)) h));have HB1_7:=aj (HM7.o.aF HB1_6.o (fun h=>((show w2.heap.size≠kz from by have:=HBz_2.o.lt;first|omega|(simp only[];omega)|(simp;omega))) h));have HX7:Hid (Mv X w (M.S p P.m) w7):=aj (HX6.o.comp HM7.o (fun q h=>by rw[h];exact(Or.inr HGEBz.o)));by_cases hlt:k<P.n
  ·have hlt2:(k:Int)<(P.n:Int):=ae;have zk_:=HCK.o k hlt;rw[if_neg ae] at zk_;have HZk:=aj zk_;clear zk_;by_cases hj:k=at_
   ·have hj2:((k:Int) == (at_:Int))=true:=by simp;omega
    have HJ:=aj hj;clear hj;have cF_row_k:=HBF_7.o.cell (HR.o) (hlt);go_wp2_with fail;clear cF_row_k;refine aD [.val (.pointer (some ⟨w2.heap.size,1,none⟩)),.val (.slice (some ⟨kz,0,none⟩) P.n P.n),.val (.int .i64 (k:Int)),.val (.string ⟨#[45,49]⟩),.val (.string (qs (1:Rat))),.val (.string (qs (T.f row at_))),.val (.tuple #[.string (qs ((1:Rat) / T.f row at_)),.int .i64 0]),.val (.tuple #[.string (qs ((1:Rat) / T.f row at_)),.int .i64 0]),.val (.string (qs ((1:Rat) / T.f row at_))),.val (.int .i64 0),.val (.pointer (some ⟨kz,k,none⟩)),.aJ] (fun L g W=>(if L 11=true then ax W (kz) ((CK).setIfInBounds k (.string (qs ((1:Rat) / T.f row at_)))) 34 else ax W (kz) (CK) 34)) (S:=fun k=>k=kz) ag ag ag (Mv.refl HX7.o.ext (fun k h=>(fun e=>Nat.le_trans (HX7.o.le (Or.inr HGEBz.o)) (Nat.le_of_eq e.symm)) h)) ?_ ?_ ?_ ?_ (fun gv_ w8 hm_ he_=>?_)
    ·exact fun gz_=>(by rw[if_neg af];exact HBz_7.o.drew)
    ·exact fun L g W W1 h e=>aL (h) (fun h=>h.ext e) (fun h=>h.ext e)
    ·intro i v L g W hi h;have n11_:i≠11:=fun e=>by subst e;exact absurd (show false=true from hi) af
     simp only[av n11_,aw n11_];exact h
    ·skip
     refine RI 8 (.pointer (some ⟨w2.heap.size,0,none⟩))<|J2 (fun hs_=>hs_.val 0) (fun hs_=>(hs_.mv.aF HB1_7.o (fun h=>((show w2.heap.size≠kz from by have:=HBz_2.o.lt;first|omega|(simp only[];omega)|(simp;omega))) h)).cell 1 rfl)<|RI 9 (.int .i64 (k:Int))<|RI 10 (.string ⟨#[45,49]⟩)<|K1 (fun hs_=>hs_.val 3) (fun _=>Ag _)<|RI 7 (.string (qs (T.f row at_)))<|K2 (fun hs_=>hs_.val 4) (fun hs_=>hs_.val 5) (fun hs_=>lY (1:Rat) (T.f row at_) _ (HG.o.ext hs_.mv.ext) BE (HQf.o row HR.o at_ HA.o) ae ae ae HK.o)<|R1 6<|R1 7<|R1 7<|R2 1 2 ?_;refine aB.cons (fun L_ g_ A_ W_ hs_=>?_) ?_
     ·have q61_:=hs_.val 10;have q59_:=hs_.val 8;refine bQ.aJ fun K_ hK_=>?_;have n_:=hs_.not;have e_:=hs_.e;rw[if_neg (by rw[n_];decide)] at e_;have c_0:=e_.cell (k) HZk.o;have f_0:=e_.free k;have HE_:=aj e_;have HM_:=aj hs_.mv;have HEE_:=aj hs_.e;clear e_ n_;go_simp;exact hK_.o undef _ (HM_.o.setCell (Or.inl (rfl)) _) (by rw[aE,if_pos rfl];exact(HE_.o.set k _))
     exact aB.nil
    simp only[fT,Ke.value,bD,Act.put,List.setIfInBounds_toArray,List.set_cons_zero,List.set_cons_succ];have HX8:=aj (HX7.o.comp hm_ (fun k h=>(fun e=>(by rw[e];exact(Or.inr HGEBz.o))) h));have HBp_8:=aj (hm_.aF HBp_7.o (fun h=>((show p≠kz from HNBpBz.o)) h));have HBb_8:=aj (hm_.aF HBb_7.o (fun h=>((show M.bb≠kz from HNBbBz.o)) h));have HBl_8:=aj (hm_.aF HBl_7.o (fun h=>((show M.lb≠kz from HNBlBz.o)) h));have HBo_8:=aj (hm_.aF HBo_7.o (fun h=>((show M.ob≠kz from HNBoBz.o)) h));have HBw_8:=aj (hm_.aF HBw_7.o (fun h=>((show M.wb≠kz from HNBwBz.o)) h));have HBF_8:=aj (HBF_7.o.mv hm_ (fun i hi h=>(((dE HFLT.o (show w.heap.size<=kz from HGEBz.o))) i hi) h));have HB0_8:=aj (hm_.aF HB0_7.o (fun h=>((show w.heap.size≠kz from HNB0Bz.o)) h));have HBz_8:Hid (ax w8 (kz) ((CK).setIfInBounds k (.string (qs ((1:Rat) / T.f row at_)))) 34):=aj (by have h_:=he_;rw[if_pos rfl] at h_;exact h_);have HB1_8:=aj (hm_.aF HB1_7.o (fun h=>((show w2.heap.size≠kz from by have:=HBz_2.o.lt;first|omega|(simp only[];omega)|(simp;omega))) h));have HMR:=aj hm_;clear hm_ he_;go_wp2_with fail;go_roundw
    case rel=>exact⟨k+1,by go_num,ae,aj ⟨HM7.o.comp HMR.o (fun q h=>Or.inl h),_,HBz_8.o,rK HCK.o hlt (by rw[aO.jz,if_pos HJ.o];grind)⟩⟩
    case measure=>simp[intOf];omega
   ·have hj2:((k:Int) == (at_:Int))=false:=by simp;omega
    have HJ:=aj hj;clear hj;have cF_row_k:=HBF_7.o.cell (HR.o) (hlt);go_wp2_with fail;clear cF_row_k;refine aD [.val (.pointer (some ⟨w2.heap.size,1,none⟩)),.val (.slice (some ⟨kz,0,none⟩) P.n P.n),.val (.int .i64 (k:Int)),.val (.string (qs (T.f row k))),.val (.string (qs (-T.f row k))),.val (.string (qs (T.f row at_))),.val (.tuple #[.string (qs (-T.f row k / T.f row at_)),.int .i64 0]),.val (.tuple #[.string (qs (-T.f row k / T.f row at_)),.int .i64 0]),.val (.string (qs (-T.f row k / T.f row at_))),.val (.int .i64 0),.val (.pointer (some ⟨kz,k,none⟩)),.aJ] (fun L g W=>(if L 11=true then ax W (kz) ((CK).setIfInBounds k (.string (qs (-T.f row k / T.f row at_)))) 34 else ax W (kz) (CK) 34)) (S:=fun k=>k=kz) ag ag ag (Mv.refl HX7.o.ext (fun k h=>(fun e=>Nat.le_trans (HX7.o.le (Or.inr HGEBz.o)) (Nat.le_of_eq e.symm)) h)) ?_ ?_ ?_ ?_ (fun gv_ w8 hm_ he_=>?_)
    ·exact fun gz_=>(by rw[if_neg af];exact HBz_7.o.drew)
    ·exact fun L g W W1 h e=>aL (h) (fun h=>h.ext e) (fun h=>h.ext e)
    ·intro i v L g W hi h;have n11_:i≠11:=fun e=>by subst e;exact absurd (show false=true from hi) af
     simp only[av n11_,aw n11_];exact h
    ·skip
     refine RI 8 (.pointer (some ⟨w2.heap.size,0,none⟩))<|J2 (fun hs_=>hs_.val 0) (fun hs_=>(hs_.mv.aF HB1_7.o (fun h=>((show w2.heap.size≠kz from by have:=HBz_2.o.lt;first|omega|(simp only[];omega)|(simp;omega))) h)).cell 1 rfl)<|RI 9 (.int .i64 (k:Int))<|RI 10 (.string (qs (T.f row k)))<|K1 (fun hs_=>hs_.val 3) (fun _=>gJ (T.f row k) _ (HQf.o row HR.o k hlt) ae)<|RI 7 (.string (qs (T.f row at_)))<|K2 (fun hs_=>hs_.val 4) (fun hs_=>hs_.val 5) (fun hs_=>lY (-T.f row k) (T.f row at_) _ (HG.o.ext hs_.mv.ext) (HQf.o row HR.o k hlt).neg (HQf.o row HR.o at_ HA.o) ae ae ae HK.o)<|R1 6<|R1 7<|R1 7<|R2 1 2 ?_;refine aB.cons (fun L_ g_ A_ W_ hs_=>?_) ?_
     ·have q61_:=hs_.val 10;have q59_:=hs_.val 8;refine bQ.aJ fun K_ hK_=>?_;have n_:=hs_.not;have e_:=hs_.e;rw[if_neg (by rw[n_];decide)] at e_;have c_0:=e_.cell (k) HZk.o;have f_0:=e_.free k;have HE_:=aj e_;have HM_:=aj hs_.mv;have HEE_:=aj hs_.e;clear e_ n_;go_simp;exact hK_.o undef _ (HM_.o.setCell (Or.inl (rfl)) _) (by rw[aE,if_pos rfl];exact(HE_.o.set k _))
     exact aB.nil
    simp only[fT,Ke.value,bD,Act.put,List.setIfInBounds_toArray,List.set_cons_zero,List.set_cons_succ];have HX8:=aj (HX7.o.comp hm_ (fun k h=>(fun e=>(by rw[e];exact(Or.inr HGEBz.o))) h));have HBp_8:=aj (hm_.aF HBp_7.o (fun h=>((show p≠kz from HNBpBz.o)) h));have HBb_8:=aj (hm_.aF HBb_7.o (fun h=>((show M.bb≠kz from HNBbBz.o)) h));have HBl_8:=aj (hm_.aF HBl_7.o (fun h=>((show M.lb≠kz from HNBlBz.o)) h));have HBo_8:=aj (hm_.aF HBo_7.o (fun h=>((show M.ob≠kz from HNBoBz.o)) h));have HBw_8:=aj (hm_.aF HBw_7.o (fun h=>((show M.wb≠kz from HNBwBz.o)) h));have HBF_8:=aj (HBF_7.o.mv hm_ (fun i hi h=>(((dE HFLT.o (show w.heap.size<=kz from HGEBz.o))) i hi) h));have HB0_8:=aj (hm_.aF HB0_7.o (fun h=>((show w.heap.size≠kz from HNB0Bz.o)) h));have HBz_8:Hid (ax w8 (kz) ((CK).setIfInBounds k (.string (qs (-T.f row k / T.f row at_)))) 34):=aj (by have h_:=he_;rw[if_pos rfl] at h_;exact h_);have HB1_8:=aj (hm_.aF HB1_7.o (fun h=>((show w2.heap.size≠kz from by have:=HBz_2.o.lt;first|omega|(simp only[];omega)|(simp;omega))) h));have HMR:=aj hm_;clear hm_ he_;go_wp2_with fail;go_roundw
    case rel=>exact⟨k+1,by go_num,ae,aj ⟨HM7.o.comp HMR.o (fun q h=>Or.inl h),_,HBz_8.o,rK HCK.o hlt (by rw[aO.jz,if_neg HJ.o])⟩⟩
    case measure=>simp[intOf];omega
  ·have hk2:k=P.n:=ae;have hge:¬ (k:Int)<(P.n:Int):=ae;have HCY:Hid (∀ j,j<P.n->CK[j]?=some (.string (qs (T.jz row at_ j)))):=aj (fun j hj=>by have:=HCK.o j hj;rwa[if_pos ae] at this);clear HCK;have cp_2:=HBp_7.o.cell (2) HP0.o.2.2.1;go_wp2_with fail;clear cp_2;go_wp2_with fail;go_loopw [68] (fun x0_ wx=>∃ k2:Nat,x0_ = .int .i64 k2/\k2<=P.m/\Hid (Mv X w7 (fun q=>q=M.lb∨∃ i,i<P.m/\q=M.fb i) wx/\(∃ CK2,ax wx M.lb CK2 182/\qd P T M row at_ k2 CK2)/\jC wx M.fb P.m P.n (fun i j => .string (qs (pf T row at_ k2 i j))) 34)) (fun x0_ _=>P.m-(intOf x0_).toNat)
   case atStart=>exact⟨0,rfl,Nat.zero_le _,aj ⟨Mv.refl HX7.o.ext (fun q h=>HX7.o.low q ((fun q h=>h.elim (fun e=>Or.inr (Or.inr (Or.inl e))) (fun e=>Or.inr (Or.inr (Or.inr (Or.inr (Or.inr e)))))) q h)),⟨_,HBl_7.o,qd.start HCL.o⟩,PvF.start HBF_7.o⟩⟩
   case round =>
    rename World=>w8
    obtain⟨k2,rfl,hkm,HH⟩:=hrel;have HM8:=aj HH.o.1;obtain⟨CK2,a1_,a2_⟩:=HH.o.2.1;have HBl_8:=aj a1_;have HCK:=aj a2_;have HFK:=aj HH.o.2.2;clear a1_ a2_ HH;have HBp_8:=aj (HM8.o.aF HBp_7.o (fun h=>h.elim ((show p≠M.lb from HN2.o)) (fun h2=>(fun⟨i,hi,e⟩=>HFP.o i hi (e.symm)) h2)));have HBb_8:=aj (HM8.o.aF HBb_7.o (fun h=>h.elim ((show M.bb≠M.lb from HN6.o)) (fun h2=>(fun⟨i,hi,e⟩=>HFBB.o i hi (e.symm)) h2)));have HBo_8:=aj (HM8.o.aF HBo_7.o (fun h=>h.elim ((show M.ob≠M.lb from fun h=>HN10.o h.symm)) (fun h2=>(fun⟨i,hi,e⟩=>HFO.o i hi (e.symm)) h2)));have HBw_8:=aj (HM8.o.aF HBw_7.o (fun h=>h.elim ((show M.wb≠M.lb from fun h=>HN11.o h.symm)) (fun h2=>(fun⟨i,hi,e⟩=>HFW.o i hi (e.symm)) h2)));have HB0_8:=aj (HM8.o.aF HB0_7.o (fun h=>h.elim ((show w.heap.size≠M.lb from by have:=HBl.o.lt;first|omega|(simp only[];omega)|(simp;omega))) (fun h2=>(fun⟨i,hi,e⟩=>(dE HFLT.o (show w.heap.size<=w.heap.size from HGEB0.o)) i hi (e.symm)) h2)));have HBz_8:=aj (HM8.o.aF HBz_7.o (fun h=>h.elim ((show kz≠M.lb from fun h=>HNBlBz.o h.symm)) (fun h2=>(fun⟨i,hi,e⟩=>(dE HFLT.o (show w.heap.size<=kz from HGEBz.o)) i hi (e.symm)) h2)));have HB1_8:=aj (HM8.o.aF HB1_7.o (fun h=>h.elim ((show w2.heap.size≠M.lb from by have:=HBl_2.o.lt;first|omega|(simp only[];omega)|(simp;omega))) (fun h2=>(fun⟨i,hi,e⟩=>(dE HFLT.o (show w.heap.size<=w2.heap.size from HGEB1.o)) i hi (e.symm)) h2)));have HX8:Hid (Mv X w (M.S p P.m) w8):=aj (HX7.o.comp HM8.o (fun q h=>Or.inl ((fun q h=>h.elim (fun e=>Or.inr (Or.inr (Or.inl e))) (fun e=>Or.inr (Or.inr (Or.inr (Or.inr (Or.inr e)))))) q h)));by_cases hlt:k2<P.m
    ·have hlt2:(k2:Int)<(P.m:Int):=ae;by_cases hj:k2=row
     ·have hj2:((k2:Int) != (row:Int))=false:=by simp;omega
      have HJ:=aj hj;clear hj;go_wp2_with fail;go_roundw
      case rel=>exact⟨k2+1,by go_num,ae,aj ⟨HM8.o,⟨_,HBl_8.o,qd.skip HJ.o HCK.o⟩,PvF.skip HJ.o HFK.o⟩⟩
      case measure=>simp[intOf];omega
     ·have hj2:((k2:Int) != (row:Int))=true:=by simp;omega
      have HJ:=aj hj;clear hj;obtain⟨CG,g1_,g2_⟩:=PvF.Ev HFK.o hlt;have HBg:=aj g1_;have HCG:=aj g2_;clear g1_ g2_;have HL0_:=aj (qd.now HCK.o hlt);have HL1_:=aj (HCK.o k2 hlt).2;go_wp2_with fail;refine aD [.val (.pointer (some ⟨p,0,none⟩)),.val (.pointer (some ⟨p,0,none⟩)),.val (.pointer (some ⟨p,2,none⟩)),.val (.slice (some ⟨M.lb,0,none⟩) P.m M.lc),.val (.int .i64 (k2:Int)),.val (.pointer (some ⟨M.lb,k2*2,none⟩)),.val (.int .i64 (at_:Int)),.val (.agg #[.string (qs (-T.c row / T.f row at_)),.slice (some ⟨kz,0,none⟩) P.n P.n]),.ev (.tuple #[])] (fun L g W=>(if L 8=true then ∃ LD,ax W M.lb LD 182/\LD[k2*2]?=some (.string (qs (T.c k2+T.f k2 at_*T.j8 row at_)))/\(∀ i,i≠k2*2->LD[i]?=CK2[i]?)/\∃ FD,ax W (M.fb k2) FD 34/\∀ j,j<P.n->FD[j]?=some (.string (qs ((if j=at_ then 0 else T.f k2 j)+T.f k2 at_*T.jz row at_ j))) else ax W M.lb CK2 182/\ax W (M.fb k2) CG 34)) (S:=fun k=>k=M.lb∨k=M.fb k2) ag ag ag (Mv.refl HX8.o.ext (fun k h=>h.elim (fun e=>Nat.le_trans (HX8.o.le (Or.inl (Or.inr (Or.inr (Or.inl rfl))))) (Nat.le_of_eq e.symm)) (fun h2=>(fun e=>Nat.le_trans (HX8.o.le (Or.inl (Or.inr (Or.inr (Or.inr (Or.inr (Or.inr ⟨k2,hlt,rfl⟩))))))) (Nat.le_of_eq e.symm)) h2))) ?_ ?_ ?_ ?_ (fun gv_ w9 hm_ he_=>?_)
      ·exact fun gz_=>(by rw[if_neg af];exact⟨HBl_8.o.drew,HBg.o.drew⟩)
      ·exact fun L g W W1 h e=>aL (h) (fun⟨LD,b1,b2,b3,FD,b4,b5⟩=>⟨LD,b1.ext e,b2,b3,FD,b4.ext e,b5⟩) (fun h=>⟨h.1.ext e,h.2.ext e⟩)
      ·intro i v L g W hi h;have n8_:i≠8:=fun e=>by subst e;exact absurd (show false=true from hi) af
       simp only[av n8_,aw n8_];exact h
      ·skip
       refine RI 0 (.pointer (some ⟨p,0,none⟩))<|R1 0<|R1 1<|J2 (fun hs_=>hs_.val 2) (fun hs_=>(hs_.mv.aF HBp_8.o (fun h=>h.elim ((show p≠M.lb from HN2.o)) (fun h2=>((show p≠M.fb k2 from fun h=>(HFP.o) k2 hlt h.symm)) h2))).cell (2) HP0.o.2.2.1)<|RI 11 (.int .i64 (k2:Int))<|R2 3 4<|RI 2 (.int .i64 (at_:Int))<|J3 (fun hs_=>hs_.is 8 (.pointer (some ⟨w2.heap.size,0,none⟩))) (fun hs_=>(hs_.mv.aF HB1_8.o (fun h=>h.elim ((show w2.heap.size≠M.lb from by have:=HBl_2.o.lt;first|omega|(simp only[];omega)|(simp;omega))) (fun h2=>((show w2.heap.size≠M.fb k2 from fun h=>((dE HFLT.o (show w.heap.size<=w2.heap.size from HGEB1.o))) k2 hlt h.symm)) h2))).cell 0 rfl) (fun hs_=>(hs_.mv.aF HB1_8.o (fun h=>h.elim ((show w2.heap.size≠M.lb from by have:=HBl_2.o.lt;first|omega|(simp only[];omega)|(simp;omega))) (fun h2=>((show w2.heap.size≠M.fb k2 from fun h=>((dE HFLT.o (show w.heap.size<=w2.heap.size from HGEB1.o))) k2 hlt h.symm)) h2))).cell 1 rfl) ?_;refine aB.cons (fun L_ g_ A_ W_ hs_=>?_) ?_
       ·have q79_:=hs_.val 5;have q80_:=hs_.val 6;have q81_:=hs_.val 7;refine bQ.ev fun K_ hK_=>?_;have n_:=hs_.not;have e_:=hs_.e;rw[if_neg (by rw[n_];decide)] at e_;have HE_:=aj e_;have HM_:=aj hs_.mv;clear e_ n_;go_simp;refine(Bm X M.lb (k2*2) (M.fb k2) (M.fc k2) P.n at_ kz P.n (q+q) (T.c k2) (T.j8 row at_) (T.f k2) (T.jz row at_) CK2 CG CK 182 _ HG.o HM_.o.ext HLO.o.2.2.1 (HLO.o.2.2.2.2.2 k2 hlt) (fun h=>(HFL.o) k2 hlt h.symm) (fun h=>HNBlBz.o h.symm) (fun h=>((dE HFLT.o (show w.heap.size<=kz from HGEBz.o))) k2 hlt h.symm) HE_.o.1 HE_.o.2 (HM_.o.aF HBz_8.o (fun h=>h.elim ((show kz≠M.lb from fun h=>HNBlBz.o h.symm)) (fun h2=>((show kz≠M.fb k2 from fun h=>((dE HFLT.o (show w.heap.size<=kz from HGEBz.o))) k2 hlt h.symm)) h2))) HL0_.o HL1_.o HCG.o HCY.o HA.o ae ae ae ((HQc.o k2 hlt).mono ae) HQb.o (fun j hj=>(HQf.o k2 hlt j hj).mono ae) HQbf.o).mono ?_;rintro e W9_ ⟨rfl,m9_,l9_⟩;exact hK_.o _ (HM_.o.comp m9_ (fun q h=>Or.inl h)) (by rw[aE,if_pos rfl];exact l9_)
       exact aB.nil
      simp only[fT,Ke.value,bD,Act.put,List.setIfInBounds_toArray,List.set_cons_zero,List.set_cons_succ];have HX9:=aj (HX8.o.comp hm_ (fun k h=>h.elim (fun e=>(by rw[e];exact(Or.inl (Or.inr (Or.inr (Or.inl rfl)))))) (fun h2=>(fun e=>(by rw[e];exact(Or.inl (Or.inr (Or.inr (Or.inr (Or.inr (Or.inr ⟨k2,hlt,rfl⟩)))))))) h2)));have HBp_9:=aj (hm_.aF HBp_8.o (fun h=>h.elim ((show p≠M.lb from HN2.o)) (fun h2=>((show p≠M.fb k2 from fun h=>(HFP.o) k2 hlt h.symm)) h2)));have HBb_9:=aj (hm_.aF HBb_8.o (fun h=>h.elim ((show M.bb≠M.lb from HN6.o)) (fun h2=>((show M.bb≠M.fb k2 from fun h=>(HFBB.o) k2 hlt h.symm)) h2)));have HBo_9:=aj (hm_.aF HBo_8.o (fun h=>h.elim ((show M.ob≠M.lb from fun h=>HN10.o h.symm)) (fun h2=>((show M.ob≠M.fb k2 from fun h=>(HFO.o) k2 hlt h.symm)) h2)));have HBw_9:=aj (hm_.aF HBw_8.o (fun h=>h.elim ((show M.wb≠M.lb from fun h=>HN11.o h.symm)) (fun h2=>((show M.wb≠M.fb k2 from fun h=>(HFW.o) k2 hlt h.symm)) h2)));have HB0_9:=aj (hm_.aF HB0_8.o (fun h=>h.elim ((show w.heap.size≠M.lb from by have:=HBl.o.lt;first|omega|(simp only[];omega)|(simp;omega))) (fun h2=>((show w.heap.size≠M.fb k2 from fun h=>((dE HFLT.o (show w.heap.size<=w.heap.size from HGEB0.o))) k2 hlt h.symm)) h2)));have HBz_9:=aj (hm_.aF HBz_8.o (fun h=>h.elim ((show kz≠M.lb from fun h=>HNBlBz.o h.symm)) (fun h2=>((show kz≠M.fb k2 from fun h=>((dE HFLT.o (show w.heap.size<=kz from HGEBz.o))) k2 hlt h.symm)) h2)));have HB1_9:=aj (hm_.aF HB1_8.o (fun h=>h.elim ((show w2.heap.size≠M.lb from by have:=HBl_2.o.lt;first|omega|(simp only[];omega)|(simp;omega))) (fun h2=>((show w2.heap.size≠M.fb k2 from fun h=>((dE HFLT.o (show w.heap.size<=w2.heap.size from HGEB1.o))) k2 hlt h.symm)) h2)));have h_:=(he_);rw[if_pos rfl] at h_;obtain⟨LD,b1,b2,b3,FD,b4,b5⟩:=h_;have HBl_9:=aj b1;have HLD:=aj b2;have HLN:=aj b3;have HBg_9:=aj b4;have HFD:=aj b5;clear b1 b2 b3 b4 b5;have HMR:=aj hm_;clear hm_ he_;go_wp2_with fail;go_roundw
      case rel=>exact⟨k2+1,by go_num,ae,aj ⟨HM8.o.comp HMR.o (fun q h=>Or.inl (h.elim Or.inl (fun e=>Or.inr ⟨k2,hlt,e⟩))),⟨_,HBl_9.o,qd.step HJ.o HCK.o HLD.o HLN.o⟩,PvF.step HMR.o HINJ.o hlt HJ.o HFK.o HFL.o HBg_9.o HFD.o⟩⟩
      case measure=>simp[intOf];omega
    ·have hk2:k2=P.m:=ae;have hge:¬ (k2:Int)<(P.m:Int):=ae;have HLR0:=aj (qd.D0 HCK.o HR.o);have HLR1:=aj (HCK.o row HR.o).2;go_wp2_with fail;refine aD [.val (.pointer (some ⟨p,0,none⟩)),.val (.pointer (some ⟨p,0,none⟩)),.val (.pointer (some ⟨p,4,none⟩)),.val (.int .i64 (at_:Int)),.val (.agg #[.string (qs (-T.c row / T.f row at_)),.slice (some ⟨kz,0,none⟩) P.n P.n]),.ev (.tuple #[])] (fun L g W=>(if L 5=true then ∃ LD,ax W p LD 185/\LD[4]?=some (.string (qs (T.wc+T.wf at_*T.j8 row at_)))/\(∀ i,i≠4->LD[i]?=CP[i]?)/\∃ FD,ax W M.wb FD 34/\∀ j,j<P.n->FD[j]?=some (.string (qs ((if j=at_ then 0 else T.wf j)+T.wf at_*T.jz row at_ j))) else ax W p CP 185/\ax W M.wb CW 34)) (S:=fun k=>k=p∨k=M.wb) ag ag ag (Mv.refl HX8.o.ext (fun k h=>h.elim (fun e=>Nat.le_trans (HX8.o.le (Or.inl (Or.inl rfl))) (Nat.le_of_eq e.symm)) (fun h2=>(fun e=>Nat.le_trans (HX8.o.le (Or.inl (Or.inr (Or.inr (Or.inr (Or.inr (Or.inl rfl))))))) (Nat.le_of_eq e.symm)) h2))) ?_ ?_ ?_ ?_ (fun gv_ w9 hm_ he_=>?_)
     ·exact fun gz_=>(by rw[if_neg af];exact⟨HBp_8.o.drew,HBw_8.o.drew⟩)
     ·exact fun L g W W1 h e=>aL (h) (fun⟨LD,b1,b2,b3,FD,b4,b5⟩=>⟨LD,b1.ext e,b2,b3,FD,b4.ext e,b5⟩) (fun h=>⟨h.1.ext e,h.2.ext e⟩)
     ·intro i v L g W hi h;have n5_:i≠5:=fun e=>by subst e;exact absurd (show false=true from hi) af
      simp only[av n5_,aw n5_];exact h
     ·skip
      refine RI 0 (.pointer (some ⟨p,0,none⟩))<|R1 0<|R1 1<|RI 2 (.int .i64 (at_:Int))<|J3 (fun hs_=>hs_.is 8 (.pointer (some ⟨w2.heap.size,0,none⟩))) (fun hs_=>(hs_.mv.aF HB1_8.o (fun h=>h.elim ((show w2.heap.size≠p from by have:=HBp_2.o.lt;first|omega|(simp only[];omega)|(simp;omega))) (fun h2=>((show w2.heap.size≠M.wb from by have:=HBw_2.o.lt;first|omega|(simp only[];omega)|(simp;omega))) h2))).cell 0 rfl) (fun hs_=>(hs_.mv.aF HB1_8.o (fun h=>h.elim ((show w2.heap.size≠p from by have:=HBp_2.o.lt;first|omega|(simp only[];omega)|(simp;omega))) (fun h2=>((show w2.heap.size≠M.wb from by have:=HBw_2.o.lt;first|omega|(simp only[];omega)|(simp;omega))) h2))).cell 1 rfl) ?_;refine aB.cons (fun L_ g_ A_ W_ hs_=>?_) ?_
      ·have q86_:=hs_.val 2;have q87_:=hs_.val 3;have q88_:=hs_.val 4;refine bQ.ev fun K_ hK_=>?_;have n_:=hs_.not;have e_:=hs_.e;rw[if_neg (by rw[n_];decide)] at e_;have HE_:=aj e_;have HM_:=aj hs_.mv;clear e_ n_;go_simp;refine(Bm X p 4 M.wb M.wcap P.n at_ kz P.n (q+q) T.wc (T.j8 row at_) T.wf (T.jz row at_) CP CW CK 185 _ HG.o HM_.o.ext HLO.o.1 HLO.o.2.2.2.2.1 (HN4.o) (fun h=>HNBpBz.o h.symm) (fun h=>HNBwBz.o h.symm) HE_.o.1 HE_.o.2 (HM_.o.aF HBz_8.o (fun h=>h.elim ((show kz≠p from fun h=>HNBpBz.o h.symm)) (fun h2=>((show kz≠M.wb from fun h=>HNBwBz.o h.symm)) h2))) HP0.o.2.2.2.2.1 HP0.o.2.2.2.2.2 HCW.o HCY.o HA.o ae ae ae (HQwc.o.mono ae) HQb.o (fun j hj=>(HQw.o j hj).mono ae) HQbf.o).mono ?_;rintro e W9_ ⟨rfl,m9_,l9_⟩;exact hK_.o _ (HM_.o.comp m9_ (fun q h=>Or.inl h)) (by rw[aE,if_pos rfl];exact l9_)
      exact aB.nil
     simp only[fT,Ke.value,bD,Act.put,List.setIfInBounds_toArray,List.set_cons_zero,List.set_cons_succ];have HX9:=aj (HX8.o.comp hm_ (fun k h=>h.elim (fun e=>(by rw[e];exact(Or.inl (Or.inl rfl)))) (fun h2=>(fun e=>(by rw[e];exact(Or.inl (Or.inr (Or.inr (Or.inr (Or.inr (Or.inl rfl)))))))) h2)));have HBb_9:=aj (hm_.aF HBb_8.o (fun h=>h.elim ((show M.bb≠p from fun h=>HN1.o h.symm)) (fun h2=>((show M.bb≠M.wb from HN8.o)) h2)));have HBl_9:=aj (hm_.aF HBl_8.o (fun h=>h.elim ((show M.lb≠p from fun h=>HN2.o h.symm)) (fun h2=>((show M.lb≠M.wb from HN11.o)) h2)));have HBo_9:=aj (hm_.aF HBo_8.o (fun h=>h.elim ((show M.ob≠p from fun h=>HN3.o h.symm)) (fun h2=>((show M.ob≠M.wb from HN13.o)) h2)));have HB0_9:=aj (hm_.aF HB0_8.o (fun h=>h.elim ((show w.heap.size≠p from by have:=HBp.o.lt;first|omega|(simp only[];omega)|(simp;omega))) (fun h2=>((show w.heap.size≠M.wb from by have:=HBw.o.lt;first|omega|(simp only[];omega)|(simp;omega))) h2)));have HBz_9:=aj (hm_.aF HBz_8.o (fun h=>h.elim ((show kz≠p from fun h=>HNBpBz.o h.symm)) (fun h2=>((show kz≠M.wb from fun h=>HNBwBz.o h.symm)) h2)));have HB1_9:=aj (hm_.aF HB1_8.o (fun h=>h.elim ((show w2.heap.size≠p from by have:=HBp_2.o.lt;first|omega|(simp only[];omega)|(simp;omega))) (fun h2=>((show w2.heap.size≠M.wb from by have:=HBw_2.o.lt;first|omega|(simp only[];omega)|(simp;omega))) h2)));have HBF_9:=aj (HFK.o.mv hm_ (fun i hi h=>h.elim ((HFP.o) i hi) (fun h2=>((HFW.o) i hi) h2)));have h_:=(he_);rw[if_pos rfl] at h_;obtain⟨LP_,b1,b2,b3,FD,b4,b5⟩:=h_;have HBp_9:=aj b1;have HLP:=aj b2;have HLPN:=aj b3;have HBw_9:=aj b4;have HWD:=aj b5;clear b1 b2 b3 b4 b5;clear hm_ he_;have HP1:=aj (And.intro ((HLPN.o 0 af).trans HP0.o.1) (And.intro ((HLPN.o 1 af).trans HP0.o.2.1) (And.intro ((HLPN.o 2 af).trans HP0.o.2.2.1) (And.intro ((HLPN.o 3 af).trans HP0.o.2.2.2.1) (And.intro HLP.o ((HLPN.o 5 af).trans HP0.o.2.2.2.2.2))))));go_wp2_with fail;refine aD [.val (.pointer (some ⟨p,0,none⟩)),.val (.pointer (some ⟨p,0,none⟩)),.val (.pointer (some ⟨p,2,none⟩)),.val (.slice (some ⟨M.lb,0,none⟩) P.m M.lc),.val (.int .i64 (row:Int)),.val (.agg #[.string (qs (-T.c row / T.f row at_)),.slice (some ⟨kz,0,none⟩) P.n P.n]),.val (.pointer (some ⟨M.lb,row*2,none⟩)),.aJ] (fun L g W=>(if L 7=true then ax W (M.lb) (((CK2).setIfInBounds (row*2) (.string (qs (-T.c row / T.f row at_)))).setIfInBounds (row*2+1) (.slice (some ⟨kz,0,none⟩) P.n P.n)) 182 else ax W (M.lb) (CK2) 182)) (S:=fun k=>k=M.lb) ag ag ag (Mv.refl HX9.o.ext (fun k h=>(fun e=>Nat.le_trans (HX9.o.le (Or.inl (Or.inr (Or.inr (Or.inl rfl))))) (Nat.le_of_eq e.symm)) h)) ?_ ?_ ?_ ?_ (fun gv_ w10 hm_ he_=>?_)
     ·exact fun gz_=>(by rw[if_neg af];exact HBl_9.o.drew)
     ·exact fun L g W W1 h e=>aL (h) (fun h=>h.ext e) (fun h=>h.ext e)
     ·intro i v L g W hi h;have n7_:i≠7:=fun e=>by subst e;exact absurd (show false=true from hi) af
      simp only[av n7_,aw n7_];exact h
     ·skip
      refine RI 0 (.pointer (some ⟨p,0,none⟩))<|R1 0<|R1 1<|J2 (fun hs_=>hs_.val 2) (fun hs_=>(hs_.mv.aF HBp_9.o (fun h=>((show p≠M.lb from HN2.o)) h)).cell (2) HP1.o.2.2.1)<|RI 1 (.int .i64 (row:Int))<|J3 (fun hs_=>hs_.is 8 (.pointer (some ⟨w2.heap.size,0,none⟩))) (fun hs_=>(hs_.mv.aF HB1_9.o (fun h=>((show w2.heap.size≠M.lb from by have:=HBl_2.o.lt;first|omega|(simp only[];omega)|(simp;omega))) h)).cell 0 rfl) (fun hs_=>(hs_.mv.aF HB1_9.o (fun h=>((show w2.heap.size≠M.lb from by have:=HBl_2.o.lt;first|omega|(simp only[];omega)|(simp;omega))) h)).cell 1 rfl)<|R2 3 4 ?_;refine aB.cons (fun L_ g_ A_ W_ hs_=>?_) ?_
      ·have q96_:=hs_.val 6;have q95_:=hs_.val 5;refine bQ.aJ fun K_ hK_=>?_;have n_:=hs_.not;have e_:=hs_.e;rw[if_neg (by rw[n_];decide)] at e_;have c_0:=e_.cell (row*2) HLR0.o;have f_0:=e_.free (row*2);have c_1:=e_.cell (row*2+1) HLR1.o;have f_1:=e_.free (row*2+1);have HE_:=aj e_;have HM_:=aj hs_.mv;have HEE_:=aj hs_.e;clear e_ n_;go_simp;exact hK_.o undef _ ((HM_.o.setCell (Or.inl (rfl)) _).setCell (Or.inl (rfl)) _) (by rw[aE,if_pos rfl];exact((HE_.o.set (row*2) _).set (row*2+1) _))
      exact aB.nil
     simp only[fT,Ke.value,bD,Act.put,List.setIfInBounds_toArray,List.set_cons_zero,List.set_cons_succ];have HX10:=aj (HX9.o.comp hm_ (fun k h=>(fun e=>(by rw[e];exact(Or.inl (Or.inr (Or.inr (Or.inl rfl)))))) h));have HBp_10:=aj (hm_.aF HBp_9.o (fun h=>((show p≠M.lb from HN2.o)) h));have HBb_10:=aj (hm_.aF HBb_9.o (fun h=>((show M.bb≠M.lb from HN6.o)) h));have HBl_10:Hid (ax w10 (M.lb) (((CK2).setIfInBounds (row*2) (.string (qs (-T.c row / T.f row at_)))).setIfInBounds (row*2+1) (.slice (some ⟨kz,0,none⟩) P.n P.n)) 182):=aj (by have h_:=he_;rw[if_pos rfl] at h_;exact h_);have HBo_10:=aj (hm_.aF HBo_9.o (fun h=>((show M.ob≠M.lb from fun h=>HN10.o h.symm)) h));have HBw_10:=aj (hm_.aF HBw_9.o (fun h=>((show M.wb≠M.lb from fun h=>HN11.o h.symm)) h));have HB0_10:=aj (hm_.aF HB0_9.o (fun h=>((show w.heap.size≠M.lb from by have:=HBl.o.lt;first|omega|(simp only[];omega)|(simp;omega))) h));have HBz_10:=aj (hm_.aF HBz_9.o (fun h=>((show kz≠M.lb from fun h=>HNBlBz.o h.symm)) h));have HB1_10:=aj (hm_.aF HB1_9.o (fun h=>((show w2.heap.size≠M.lb from by have:=HBl_2.o.lt;first|omega|(simp only[];omega)|(simp;omega))) h));have HBF_10:=aj (HBF_9.o.mv hm_ (fun i hi h=>((HFL.o) i hi) h));clear hm_ he_;go_wp2_with fail;refine aD [.val (.pointer (some ⟨p,0,none⟩)),.val (.pointer (some ⟨p,0,none⟩)),.val (.pointer (some ⟨p,1,none⟩)),.val (.slice (some ⟨M.bb,0,none⟩) P.m M.bc),.val (.int .i64 (row:Int)),.val (.pointer (some ⟨p,0,none⟩)),.val (.pointer (some ⟨p,0,none⟩)),.val (.pointer (some ⟨p,3,none⟩)),.val (.slice (some ⟨M.ob,0,none⟩) P.n M.oc),.val (.int .i64 (at_:Int)),.val (.pointer (some ⟨p,0,none⟩)),.val (.pointer (some ⟨p,0,none⟩)),.val (.pointer (some ⟨p,3,none⟩)),.val (.slice (some ⟨M.ob,0,none⟩) P.n M.oc),.val (.int .i64 (at_:Int)),.val (.pointer (some ⟨M.ob,at_,none⟩)),.val (.int .i64 (T.o at_:Int)),.val (.pointer (some ⟨p,0,none⟩)),.val (.pointer (some ⟨p,0,none⟩)),.val (.pointer (some ⟨p,1,none⟩)),.val (.slice (some ⟨M.bb,0,none⟩) P.m M.bc),.val (.int .i64 (row:Int)),.val (.pointer (some ⟨M.bb,row,none⟩)),.val (.int .i64 (T.b row:Int)),.val (.pointer (some ⟨M.bb,row,none⟩)),.aJ,.val (.pointer (some ⟨M.ob,at_,none⟩)),.aJ] (fun L g W=>(if L 25=true then ax W (M.bb) ((CB).setIfInBounds row (.int .i64 (T.o at_:Int))) 3 else ax W (M.bb) (CB) 3)/\(if L 27=true then ax W (M.ob) ((CO).setIfInBounds at_ (.int .i64 (T.b row:Int))) 3 else ax W (M.ob) (CO) 3)) (S:=fun k=>k=M.bb∨k=M.ob) ag ag ag (Mv.refl HX10.o.ext (fun k h=>h.elim (fun e=>Nat.le_trans (HX10.o.le (Or.inl (Or.inr (Or.inl rfl)))) (Nat.le_of_eq e.symm)) (fun h2=>(fun e=>Nat.le_trans (HX10.o.le (Or.inl (Or.inr (Or.inr (Or.inr (Or.inl rfl)))))) (Nat.le_of_eq e.symm)) h2))) ?_ ?_ ?_ ?_ (fun gv_ w11 hm_ he_=>?_)
     ·exact fun gz_=>⟨(by rw[if_neg af];exact HBb_10.o.drew),(by rw[if_neg af];exact HBo_10.o.drew)⟩
     ·exact fun L g W W1 h e=>⟨aL (h.1) (fun h=>h.ext e) (fun h=>h.ext e),aL (h.2) (fun h=>h.ext e) (fun h=>h.ext e)⟩
     ·intro i v L g W hi h;have n25_:i≠25:=fun e=>by subst e;exact absurd (show false=true from hi) af
      have n27_:i≠27:=fun e=>by subst e;exact absurd (show false=true from hi) af
      simp only[av n25_,aw n25_,av n27_,aw n27_];exact h
     ·skip
      refine RI 0 (.pointer (some ⟨p,0,none⟩))<|R1 0<|R1 1<|J2 (fun hs_=>hs_.val 2) (fun hs_=>(hs_.mv.aF HBp_10.o (fun h=>h.elim ((show p≠M.bb from HN1.o)) (fun h2=>((show p≠M.ob from HN3.o)) h2))).cell (1) HP1.o.2.1)<|RI 1 (.int .i64 (row:Int))<|RI 0 (.pointer (some ⟨p,0,none⟩))<|R1 5<|R1 6<|J2 (fun hs_=>hs_.val 7) (fun hs_=>(hs_.mv.aF HBp_10.o (fun h=>h.elim ((show p≠M.bb from HN1.o)) (fun h2=>((show p≠M.ob from HN3.o)) h2))).cell (3) HP1.o.2.2.2.1)<|RI 2 (.int .i64 (at_:Int))<|RI 0 (.pointer (some ⟨p,0,none⟩))<|R1 10<|R1 11<|J2 (fun hs_=>hs_.val 12) (fun hs_=>(hs_.mv.aF HBp_10.o (fun h=>h.elim ((show p≠M.bb from HN1.o)) (fun h2=>((show p≠M.ob from HN3.o)) h2))).cell (3) HP1.o.2.2.2.1)<|RI 2 (.int .i64 (at_:Int))<|R2 13 14 ?_;refine RV (fun A_ hs_ K_ hK_=>?_) ?_;· have q112_:=hs_.val 15;have n27_:=hs_.no 27 af ag;have e27_:=hs_.e.2;rw[if_neg (by rw[n27_];decide)] at e27_;have co_at_:=e27_.cell (at_) (HCO.o at_ HA.o);clear e27_ n27_;go_simp;exact dS hK_
      refine RI 0 (.pointer (some ⟨p,0,none⟩))<|R1 17<|R1 18<|J2 (fun hs_=>hs_.val 19) (fun hs_=>(hs_.mv.aF HBp_10.o (fun h=>h.elim ((show p≠M.bb from HN1.o)) (fun h2=>((show p≠M.ob from HN3.o)) h2))).cell (1) HP1.o.2.1)<|RI 1 (.int .i64 (row:Int))<|R2 20 21 ?_;refine RV (fun A_ hs_ K_ hK_=>?_) ?_;· have q119_:=hs_.val 22;have n25_:=hs_.no 25 af ag;have e25_:=hs_.e.1;rw[if_neg (by rw[n25_];decide)] at e25_;have cb_row:=e25_.cell (row) (HCB.o row HR.o);clear e25_ n25_;go_simp;exact dS hK_
      refine R2 3 4 ?_;refine aB.cons (fun L_ g_ A_ W_ hs_=>?_) ?_
      ·have q121_:=hs_.val 24;have q113_:=hs_.val 16;refine bQ.aJ fun K_ hK_=>?_;have n_:=hs_.not;have e_:=hs_.e.1;rw[if_neg (by rw[n_];decide)] at e_;have c_0:=e_.cell (row) (HCB.o row HR.o);have f_0:=e_.free row;have HE_:=aj e_;have HM_:=aj hs_.mv;have HEE_:=aj hs_.e;clear e_ n_;go_simp;exact hK_.o undef _ (HM_.o.setCell (Or.inl (Or.inl rfl)) _) ⟨(by rw[aE,if_pos rfl];exact(HE_.o.set row _)),(by rw[av af];exact(um HEE_.o.2 (fun h=>h.other (a:=⟨M.bb,row,none⟩) _ (fun h=>HN7.o h.symm)) (fun h=>h.other (a:=⟨M.bb,row,none⟩) _ (fun h=>HN7.o h.symm))))⟩
      refine R2 8 9 ?_;refine aB.cons (fun L_ g_ A_ W_ hs_=>?_) ?_
      ·have q122_:=hs_.val 26;have q120_:=hs_.val 23;refine bQ.aJ fun K_ hK_=>?_;have n_:=hs_.not;have e_:=hs_.e.2;rw[if_neg (by rw[n_];decide)] at e_;have c_0:=e_.cell (at_) (HCO.o at_ HA.o);have f_0:=e_.free at_;have HE_:=aj e_;have HM_:=aj hs_.mv;have HEE_:=aj hs_.e;clear e_ n_;go_simp;exact hK_.o undef _ (HM_.o.setCell (Or.inl (Or.inr (rfl))) _) ⟨(by rw[av af];exact(um HEE_.o.1 (fun h=>h.other (a:=⟨M.ob,at_,none⟩) _ (HN7.o)) (fun h=>h.other (a:=⟨M.ob,at_,none⟩) _ (HN7.o)))),(by rw[aE,if_pos rfl];exact(HE_.o.set at_ _))⟩
      exact aB.nil
     simp only[fT,Ke.value,bD,Act.put,List.setIfInBounds_toArray,List.set_cons_zero,List.set_cons_succ];have HX11:=aj (HX10.o.comp hm_ (fun k h=>h.elim (fun e=>(by rw[e];exact(Or.inl (Or.inr (Or.inl rfl))))) (fun h2=>(fun e=>(by rw[e];exact(Or.inl (Or.inr (Or.inr (Or.inr (Or.inl rfl))))))) h2)));have HBp_11:=aj (hm_.aF HBp_10.o (fun h=>h.elim ((show p≠M.bb from HN1.o)) (fun h2=>((show p≠M.ob from HN3.o)) h2)));have HBb_11:Hid (ax w11 (M.bb) ((CB).setIfInBounds row (.int .i64 (T.o at_:Int))) 3):=aj (by have h_:=he_.1;rw[if_pos rfl] at h_;exact h_);have HBl_11:=aj (hm_.aF HBl_10.o (fun h=>h.elim ((show M.lb≠M.bb from fun h=>HN6.o h.symm)) (fun h2=>((show M.lb≠M.ob from HN10.o)) h2)));have HBo_11:Hid (ax w11 (M.ob) ((CO).setIfInBounds at_ (.int .i64 (T.b row:Int))) 3):=aj (by have h_:=he_.2;rw[if_pos rfl] at h_;exact h_);have HBw_11:=aj (hm_.aF HBw_10.o (fun h=>h.elim ((show M.wb≠M.bb from fun h=>HN8.o h.symm)) (fun h2=>((show M.wb≠M.ob from fun h=>HN13.o h.symm)) h2)));have HB0_11:=aj (hm_.aF HB0_10.o (fun h=>h.elim ((show w.heap.size≠M.bb from by have:=HBb.o.lt;first|omega|(simp only[];omega)|(simp;omega))) (fun h2=>((show w.heap.size≠M.ob from by have:=HBo.o.lt;first|omega|(simp only[];omega)|(simp;omega))) h2)));have HBz_11:=aj (hm_.aF HBz_10.o (fun h=>h.elim ((show kz≠M.bb from fun h=>HNBbBz.o h.symm)) (fun h2=>((show kz≠M.ob from fun h=>HNBoBz.o h.symm)) h2)));have HB1_11:=aj (hm_.aF HB1_10.o (fun h=>h.elim ((show w2.heap.size≠M.bb from by have:=HBb_2.o.lt;first|omega|(simp only[];omega)|(simp;omega))) (fun h2=>((show w2.heap.size≠M.ob from by have:=HBo_2.o.lt;first|omega|(simp only[];omega)|(simp;omega))) h2)));have HBF_11:=aj (HBF_10.o.mv hm_ (fun i hi h=>h.elim ((HFBB.o) i hi) (fun h2=>((HFO.o) i hi) h2)));clear hm_ he_;have HZN:Hid (∀ i,i<P.m->M.fb i≠kz):=aj (dE HFLT.o HGEBz.o);go_wp2
     first|go_end0|((try simp only[Exit.inBlock,Exit.then]);refine bodyPost_ret (results_none rfl _ _ _) rfl ?_)
     exact⟨rfl,HX11.o,kz,HGEBz.o,Ay HP1.o HBp_11.o HBb_11.o HCB.o HBo_11.o HCO.o HBl_11.o HCK.o hk2 HBF_11.o HBz_11.o HCY.o HBw_11.o HWD.o HR.o HA.o HINJ.o HFW.o HN7.o HZN.o HNBwBz.o.symm HCAP.o (by have:=hn;unfold maxLen;omega)⟩
end Go.Proofs.YtmahadmefplbnaaGreatDoor
