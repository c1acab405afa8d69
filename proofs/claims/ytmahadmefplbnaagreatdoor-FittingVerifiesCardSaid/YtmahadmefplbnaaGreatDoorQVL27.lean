/- Part 27. -/
import Derived.Test.YtmahadmefplbnaaGreatDoorQVLB
import Derived.Test.YtmahadmefplbnaaGreatDoorQVL26
import Derived.Laws.CopyOwn
import Derived.Deep.OwnRows
import Derived.Deep.CutBlock
set_option maxRecDepth 100000
set_option maxHeartbeats 2000000
open Go.Proofs.Tryz
set_option linter.unusedSimpArgs false
set_option linter.unusedVariables false
namespace Go.Proofs.YtmahadmefplbnaaGreatDoor
open Go Go.RowKit
theorem NG(n:Nat)(hn:n<=1000)(w:World):Calls prog 214 #[.int .u64 1,.int .u64 (n:Int)] w fun e w'=>e = .returned (.tuple #[.int .u64 0,.int .u64 (n:Int)])/\w=w':=by
 have h:=bits_Mul 1 n ae ae w;have e1:1*n / 18446744073709551616=0:=ae;have e2:1*n % 18446744073709551616=n:=ae;rw[e1,e2] at h;exact h.mono (fun _ _ h=>⟨h.1,h.2.symm⟩)
theorem j7:(prog.info? 34).map (fun i=>(i.zero,i.size,i.bytes))=some (some (.string ⟨#[]⟩),1,16):=ag
theorem FH:(prog.info? 34).map (·.size)=some 1:=ag
theorem Sf{w:World}{k:Nat}{z:Value}{t:TypeId}(h:ay w k #[z] t):∀ j v,[z][j]?=some v->w.cell? ((⟨k,0,none⟩:Addr).add j)=some v:=by
 intro j v hv;cases j with
 | zero=>simp only[List.getElem?_cons_zero] at hv;rw[← hv];exact h.cell 0 rfl
 | succ j=>simp at hv
theorem Ext.setRow{X w:World}{k:Nat}{cs cur:Array Value}{t:TypeId}(h:Ext X w)(hk:X.heap.size<=k)(hB:ay w k cur t):Ext X (w.setRow k cs):=below_setRow h hk cs
theorem ay.setRow{w:World}{k:Nat}{cs cur:Array Value}{t:TypeId}(hB:ay w k cur t):ay (w.setRow k cs) k cs t:=⟨setRow_heap w k cur cs t (0,0) hB.out⟩
theorem Mv.setRow{X w W:World}{S:Nat->Prop}{k:Nat}{cs cur:Array Value}{t:TypeId}(h:Mv X w S W)(hk:S k∨w.heap.size<=k)(hB:ay W k cur t):Mv X w S (W.setRow k cs) :=
 ⟨h.ext.setRow (h.le hk) hB,h.base,h.low,by rw[size_setRow];exact h.size,fun q c t' hq hB'=>⟨(setRow_other W k q cs (fun e=>hk.elim (fun hs=>hq (e▸hs)) (fun hs=>by have:=hB'.lt;omega))).trans (h.fr q c t' hq hB').out⟩⟩
theorem Se {P:Program} {w w':World} {o:Oper} {a:Act} {Q:Exit->Act->World->Prop} {K:Act->World->Prop} {d s:Operand} {dT sT:TypeId} {v dv sv:Value} (hgd:o.guard=none)
    (ho:o.op = .call { callee:=.builtin .copy,args:=#[d,s],argTypes:=#[dT,sT] }) (hd:a.eval d=dv) (hs:a.eval s=sv) (hr:(Builtin.copy_ #[dT,sT] o.type #[dv,sv]).run P w = .ok v w')
    (h:K (a.put o.dst v) w'):o.wp P a w K Q:=by
 unfold Oper.wp;simp[execOp,ho,resolve,invoke,builtin,hd,hs,hr,Result.andThen];exact h
theorem W5{c n:Nat}(h:0<c)(h2:c<n):∃ m,m=Nat.min c (n-c)/\m<=c/\m<=n-c/\0<m:=by
 refine⟨_,rfl,Nat.min_le_left _ _,Nat.min_le_right _ _,?_⟩;have:0<min c (n-c):=ae;exact this
theorem MX{n c m:Nat}{z:Value}{CK:Array Value}(hs:CK.size=n)(hcn:c<=n)(hm:m<=n-c):(CK.toList.take c ++ List.replicate m z ++ CK.toList.drop (c+m)).toArray.size=n:=by
 simp[hs];omega
def Mk(w:World)(n:Nat)(z:Value)(t:TypeId)(e:Ending)(w':World):Prop:=∃ (k:Nat) (CZ:Array Value),e = .returned (.slice (some ⟨k,0,none⟩) n n)/\Ext w w'/\w.heap.size<=k/\ay w' k CZ t/\∀ j,j<n->CZ[j]?=some z
theorem Mk.of{w w':World}{n k:Nat}{z:Value}{t:TypeId}{CZ:Array Value}(h1:Ext w w')(h2:w.heap.size<=k)(h3:ay w' k CZ t)(h4:∀ j,j<n->CZ[j]?=some z):Mk w n z t (.returned (.slice (some ⟨k,0,none⟩) n n)) w':=⟨k,CZ,rfl,h1,h2,h3,h4⟩
theorem GV{n:Nat}{z:Value}{C0:Array Value}(hz:C0.size=n)(dX:0<n):(z :: C0.toList.tail).toArray.size=n:=by
 simp[hz];omega
theorem GW{z:Value}{C0:Array Value}:∀ j,j<1->(z :: C0.toList.tail).toArray[j]?=some z:=fun j hj=>by
 have:j=0:=ae;subst this;simp
theorem RJ{w:World}{k c m:Nat}{CK:Array Value}{t:TypeId}{z:Value}(h:ay w k CK t)(hc:∀ j,j<c->CK[j]?=some z)(hm:m<=c):∀ j v,(List.replicate m z)[j]?=some v->w.cell? ((⟨k,0,none⟩:Addr).add j)=some v:=by
 intro j v hv;rw[List.getElem?_replicate] at hv;split at hv
 ·rename_i hj;have e:(⟨k,0,none⟩:Addr).add j=⟨k,j,none⟩:=by unfold Addr.add;split <;> simp_all
  rw[e,← hv];exact h.cell j (hc j ae)
 ·cases hv
theorem RM(m:Nat):∀ v ∈ List.replicate m (Value.string ⟨#[48]⟩),v.oneCell'=true:=fun v hv=>by rw[List.eq_of_mem_replicate hv];rfl
theorem MY {n c m:Nat} {z:Value} {CK:Array Value} (hc:∀ j,j<c->CK[j]?=some z) (hs:CK.size=n) (hcn:c<=n) (hm:m<=n-c) (j:Nat) (hj:j<c+m) :
    (CK.toList.take c ++ List.replicate m z ++ CK.toList.drop (c+m)).toArray[j]?=some z:=by
 have hl:(CK.toList.take c).length=c:=by simp[hs];omega
 simp only[List.getElem?_toArray];by_cases h1:j<c
 ·rw[List.append_assoc,List.getElem?_append_left ae,List.getElem?_take,if_pos h1,Array.getElem?_toList];exact hc j h1
 ·rw[List.getElem?_append_left (by simp[hl];omega),List.getElem?_append_right ae,hl,List.getElem?_replicate,if_pos ae]
theorem RL(xb n:Nat)(w:World)(bx:ay w xb #[.string ⟨#[48]⟩] 34)(dX:0<n)(hn:n<=1000):Calls prog 142 #[.slice (some ⟨xb,0,none⟩) 1 1,.int .i64 (n:Int)] w (Mk w n (.string ⟨#[48]⟩) 34):=by
 have HB:=ai bx;clear bx;have h0:¬ (n:Int)<0:=ae;have hmk:=run_make_row' (P:=prog) 30 34 (.string ⟨#[]⟩) 16 underlying30 j7 rfl .i64 .i64 n ae ae;go_enter func142,ntmps142;go_upto_region 7 with(go_at_call 214;refine(NG n hn w).mono ?_;rintro e _ ⟨rfl,rfl⟩)
 refine aB (fun W=>Ext w W/\ay W xb #[.string ⟨#[48]⟩] 34/\∃ C0,ay W w.heap.size C0 34/\C0.size=n) ⟨(Ext.refl w).alloc _,HB.o.alloc _,_,ay.new _ _ _,size_madeCells _ _⟩ ?_;rintro w1 ⟨e1,b1,C0,b2,hz⟩;go_upto_block 0 with(refine wpList_copy_own rfl (.tmp 31) (.tmp 32) 30 30 rfl 34 underlying30 FH w.heap.size 0 n n ⟨xb,0,none⟩ 1 1 rfl rfl C0 34 b2.out [.string ⟨#[48]⟩] (by simp[Nat.min_def];omega) (Sf b1) (by simp;omega) (by intro v hv;simp at hv;subst hv;rfl) ?_)
 refine aB (fun W=>Ext w W/\∃ C1,ay W w.heap.size C1 34/\C1.size=n/\∀ j,j<1->C1[j]?=some (.string ⟨#[48]⟩)) ⟨e1.setRow (Nat.le_refl _) b2,_,b2.setRow,GV hz dX,GW⟩ ?_;clear b1 b2 hz e1 hmk;rintro w2 ⟨e2,C1,b3,hz,hc⟩;have aM:=ai e2;have HZ1:=ai b3;have HZS:=ai hz;have B8:=ai hc;clear e2 b3 hz hc;go_wp2_with fail;go_loopw [8] (fun bY wx=>∃ c:Nat,bY = .int .i64 c/\0<c/\c<=n/\Hid (Ext w wx/\∃ CK,ay wx w.heap.size CK 34/\CK.size=n/\∀ j,j<c->CK[j]?=some (.string ⟨#[48]⟩))) (fun bY _=>n-(intOf bY).toNat)
 case atStart=>exact⟨1,rfl,ae,ae,ai ⟨aM.o,C1,HZ1.o,HZS.o,B8.o⟩⟩
 case round =>
  rename World=>w3
  obtain⟨c,rfl,I6,I5,HH⟩:=hrel;have bA:=ai HH.o.1;obtain⟨CK,gC,gY,zD⟩:=HH.o.2;have fQ:=ai gC;have HCS:=ai gY;have jb:=ai zD;clear gC gY zD HH;by_cases aP:c<n
  ·have fj:(c:Int)<(n:Int):=ae;have c8:¬ n=c:=ae;obtain⟨m,em,em1,em2,em3⟩:=W5 I6 aP;have HEM:=ai em;clear em;go_wp2_with fail;refine aE [.val (.int .i64 (c:Int)),.val (.slice (some ⟨w.heap.size,0,none⟩) n n),.val (.int .i64 (c:Int)),.val (.slice (some ⟨w.heap.size,c,none⟩) (n-c) (n-c)),.val (.slice (some ⟨w.heap.size,0,none⟩) n n),.val (.int .i64 (c:Int)),.val (.slice (some ⟨w.heap.size,0,none⟩) c n),.ev (.int .i64 (m:Int)),.val (.int .i64 (c+m:Int)),.val (.int .i64 (c+m:Int))] (fun L g W=>(if L 7=true then ∃ CD,ay W w.heap.size CD 34/\CD.size=n/\∀ j,j<c+m->CD[j]?=some (.string ⟨#[48]⟩) else ay W w.heap.size CK 34)) (S:=fun k=>k=w.heap.size) ag ag ag (Mv.refl bA.o (fun k h=>(fun e=>Nat.le_trans (show w.heap.size<=w.heap.size from(Nat.le_refl _)) (Nat.le_of_eq e.symm)) h)) ?_ ?_ ?_ ?_ (fun fI w4 aK bW=>?_)
   ·exact fun B5=>(by rw[if_neg af];exact fQ.o.drew)
   ·exact fun L g W W1 h e=>cA (h) (fun⟨CD,b,c⟩=>⟨CD,b.ext e,c⟩) (fun h=>h.ext e)
   ·intro i v L g W hi h;have k5:i≠7:=gJ hi rfl;simp only[bB k5,bE k5];exact h
   ·skip
    refine RI 8 (.int .i64 (c:Int))<|RI 7 (.slice (some ⟨w.heap.size,0,none⟩) n n)<|RI 8 (.int .i64 (c:Int))<|R2 1 2<|RI 7 (.slice (some ⟨w.heap.size,0,none⟩) n n)<|RI 8 (.int .i64 (c:Int))<|R2 4 5 ?_;refine aN.cons (fun L_ g_ A_ W_ aw=>?_) ?_
    ·have qaT:=aw.val 3;have WK:=aw.val 6;refine fl.ev fun K_ aL=>?_;have n_:=aw.not;have e_:=aw.e;rw[if_neg (by rw[n_];decide)] at e_;have bU:=aw.mv;have hr_:=run_copy_row (P:=prog) W_ 30 30 3 34 w.heap.size c (n-c) (n-c) ⟨w.heap.size,0,none⟩ c n CK 34 (List.replicate m (.string ⟨#[48]⟩)) underlying30 FH e_.out (by rw[List.length_replicate];exact HEM.o) (RJ e_ jb.o em1) (by rw[List.length_replicate,HCS.o];omega) (RM _);refine Se rfl rfl (by go_simp) (by go_simp) hr_ ?_;rw[List.length_replicate];exact aL.o _ (bU.setRow (Or.inl rfl) e_) (by rw[bS,if_pos rfl];exact⟨_,e_.setRow,MX HCS.o I5 em2,MY jb.o HCS.o I5 em2⟩)
    refine RV (fun A_ aw K_ aL=>?_) ?_;· have RY:=aw.val 0;have qaS:=aw.ev 7;go_simp;try go_bits;exact du aL
    exact R1 8<|aN.nil
   simp only[gm,Ke.value,b7,Act.put,aq,au,av];have bO:Hid (Ext w w4):=ai aK.ext;have h_:=(bW);rw[if_pos rfl] at h_;obtain⟨CD,gC,gY,zD⟩:=h_;have jY:=ai gC;have HDS:=ai gY;have HCD:=ai zD;clear gC gY zD;clear aK bW;go_wp2_with fail;go_roundw
   case rel=>exact⟨c+m,by go_num,ae,ae,ai ⟨bO.o,CD,jY.o,HDS.o,HCD.o⟩⟩
   case measure=>simp[intOf];omega
  ·have eY:c=n:=ae;subst eY;have kx:¬ (c:Int)<(c:Int):=ae;go_wp2;go_ret;exact Mk.of bA.o (Nat.le_refl _) fQ.o jb.o
theorem MW(xb:Nat)(w:World):Calls prog 142 #[.slice (some ⟨xb,0,none⟩) 1 1,.int .i64 0] w (Mk w 0 (.string ⟨#[48]⟩) 34):=by
 have hmk:=run_make_row' (P:=prog) 30 34 (.string ⟨#[]⟩) 16 underlying30 j7 rfl .i64 .i64 0 ae ae;have hmu:=NG 0 ae;simp only[Int.natCast_zero,Int.cast_ofNat_Int] at hmk hmu;go_enter func142,ntmps142;go_upto_region 7 with(go_at_call 214;refine(hmu w).mono ?_;rintro e _ ⟨rfl,rfl⟩)
 refine aB (fun W=>Ext w W/\∃ C0,ay W w.heap.size C0 34) ⟨(Ext.refl w).alloc _,_,ay.new _ _ _⟩ ?_;rintro w1 ⟨e1,C0,b2⟩;have HX:=ai e1;have HB:=ai b2;clear e1 b2 hmk hmu;go_upto_block 0 with(refine wpList_copy_nothing rfl (.tmp 31) (.tmp 32) 30 30 rfl 34 underlying30 FH _ _ _ _ _ _ rfl rfl (by simp) ?_)
 go_wp2_with fail;refine wp_loop_rounds 1 ?_;rw[rounds_succ];go_wp2;go_ret;exact Mk.of HX.o (Nat.le_refl _) HB.o (fun j hj=>absurd hj ae)
theorem mI(n:Nat)(hn:n<=1000)(w:World):Calls prog 60 #[.int .i64 n] w (Mk w n (.string ⟨#[48]⟩) 34):=by
 go_enter func60,ntmps60;go_wp2_with fail;have hb:ay (w.alloc (.cells #[.string ⟨#[48]⟩] 34)) w.heap.size #[.string ⟨#[48]⟩] 34:=ay.new _ _ _;by_cases h0:n=0
 ·subst h0;refine(MW _ _).mono ?_;rintro e w1 ⟨k,CZ,rfl,h1,h2,h3,h4⟩;have HH:=ai (Mk.of (z:=.string ⟨#[48]⟩) (n:=0) (((Ext.refl w).alloc _).trans h1) (Nat.le_trans (Nat.le_of_lt (by simp)) h2) h3 h4);clear h1 h2 h3 h4 hb;go_wp2;go_ret;exact HH.o
 ·refine(RL _ n _ hb ae hn).mono ?_;rintro e w1 ⟨k,CZ,rfl,h1,h2,h3,h4⟩;have HH:=ai (Mk.of (n:=n) (((Ext.refl w).alloc _).trans h1) (Nat.le_trans (Nat.le_of_lt (by simp)) h2) h3 h4);clear h1 h2 h3 h4 hb;go_wp2;go_ret;exact HH.o
theorem QB1:QB 1 (1:Rat):=QB.int (n:=1) (k:=1) ⟨af⟩ af
theorem RH(w:World):Calls prog 62 #[.string ⟨#[45,49]⟩] w (aZ w (.string (qs 1))):=by
 have h:=dS (-1) w (QB.int (n:=-1) (k:=1) ⟨af⟩ af) af;have e:qs (-1)=⟨#[45,49]⟩:=vQ;rw[e] at h;have e2:-(-1:Rat)=1:=af;rwa[e2] at h
def q5(w:World)(fb:Nat->Nat)(m n:Nat)(g:Nat->Nat->Value)(t:TypeId):Prop:=∀ i,i<m->∃ C,ay w (fb i) C t/\∀ j,j<n->C[j]?=some (g i j)
section
variable {w w' X:World} {S:Nat->Prop} {fb:Nat->Nat} {m n:Nat} {g:Nat->Nat->Value} {t:TypeId}
theorem q5.ext(h:q5 w fb m n g t)(e:Ext w w'):q5 w' fb m n g t:=fun i hi=>let ⟨C,a,b⟩:=h i hi;⟨C,a.ext e,b⟩
theorem q5.alloc(h:q5 w fb m n g t)(o:Obj):q5 (w.alloc o) fb m n g t:=h.ext ((Ext.refl _).alloc o)
theorem q5.drew(h:q5 w fb m n g t):q5 w.drew fb m n g t:=h.ext (Ext.refl _).drew
theorem q5.other(h:q5 w fb m n g t){a:Addr}(u:Value)(hk:∀ i,i<m->fb i≠a.block):q5 (w.setCell a u) fb m n g t:=fun i hi=>let ⟨C,a,b⟩:=h i hi;⟨C,a.other u (hk i hi),b⟩
theorem q5.mv(h:q5 w fb m n g t)(hm:Mv X w S w')(hk:∀ i,i<m->¬ S (fb i)):q5 w' fb m n g t:=fun i hi=>let ⟨C,a,b⟩:=h i hi;⟨C,hm.aH a (hk i hi),b⟩
theorem iw{N k:Nat}(h:∀ i,i<m->fb i<N)(hk:N<=k):∀ i,i<m->fb i≠k:=fun i hi e=>by have:=h i hi;omega
theorem q5.cell(h:q5 w fb m n g t){i j:Nat}(hi:i<m)(hj:j<n):w.cell? ⟨fb i,j,none⟩=some (g i j):=let ⟨C,a,b⟩:=h i hi;a.cell j (b j hj)
end
structure TM where
 bb:Nat
 bc:Nat
 lb:Nat
 lc:Nat
 ob:Nat
 oc:Nat
 wb:Nat
 j4:Nat
 fb:Nat->Nat
 fc:Nat->Nat
 bx:Option Addr
 lx:Option Addr
 ox:Option Addr
 wx:Option Addr
 fx:Nat->Option Addr
def oa(n k:Nat)(x:Option Addr):Option Addr:=if 0<n then some ⟨k,0,none⟩ else x
theorem lL{n k:Nat}{x:Option Addr}(h:0<n):oa n k x=some ⟨k,0,none⟩:=if_pos h
def TM.S(M:TM)(p m:Nat)(k:Nat):Prop:=k=p∨k=M.bb∨k=M.lb∨k=M.ob∨k=M.wb∨∃ i,i<m/\k=M.fb i
def Bx(P:LP)(T:bT)(M:TM)(CP:Array Value):Prop :=
 CP[0]?=some (.int .i64 (P.n:Int))/\CP[1]?=some (.slice (oa P.m M.bb M.bx) P.m M.bc)/\CP[2]?=some (.slice (oa P.m M.lb M.lx) P.m M.lc)/\CP[3]?=some (.slice (oa P.n M.ob M.ox) P.n M.oc) /\
 CP[4]?=some (.string (qs T.wc))/\CP[5]?=some (.slice (oa P.n M.wb M.wx) P.n M.j4)
def PD(P:LP)(T:bT)(M:TM)(CL:Array Value):Prop:=∀ i,i<P.m->CL[i*2]?=some (.string (qs (T.c i)))/\CL[i*2+1]?=some (.slice (oa P.n (M.fb i) (M.fx i)) P.n (M.fc i))
structure qeh(P:LP)(M:TM):Prop where
 b:P.m<=M.bc/\M.bc<=maxLen
 l:P.m<=M.lc/\M.lc<=maxLen
 o:P.n<=M.oc/\M.oc<=maxLen
 w:P.n<=M.j4/\M.j4<=maxLen
 f:∀ i,i<P.m->P.n<=M.fc i/\M.fc i<=maxLen
structure Bw(P:LP)(T:bT)(p:Nat)(M:TM)(w:World):Prop where
 tab:∃ CP,ay w p CP 185/\Bx P T M CP
 qY:0<P.m->∃ CB,ay w M.bb CB 3/\∀ i,i<P.m->CB[i]?=some (.int .i64 (T.b i:Int))
 LO:0<P.m->∃ CL,ay w M.lb CL 182/\PD P T M CL
 oth:0<P.n->∃ CO,ay w M.ob CO 3/\∀ j,j<P.n->CO[j]?=some (.int .i64 (T.o j:Int))
 wor:0<P.n->∃ CW,ay w M.wb CW 34/\∀ j,j<P.n->CW[j]?=some (.string (qs (T.wf j)))
 r8:0<P.n->q5 w M.fb P.m P.n (fun i j => .string (qs (T.f i j))) 34
 inj:0<P.n->∀ i i',i<P.m->i'<P.m->M.fb i=M.fb i'->i=i'
 fw:0<P.n->∀ i,i<P.m->M.fb i≠M.wb
 bo:0<P.m->0<P.n->M.bb≠M.ob
 caps:qeh P M
theorem ay.ne{w:World}{k k':Nat}{cs cs':Array Value}{t t':TypeId}(h:ay w k cs t)(h':ay w k' cs' t')(ht:t≠t'):k≠k':=fun e=>by
 subst e;have:=h.out.symm.trans h'.out;simp only[Option.some.injEq,Obj.cells.injEq] at this;exact ht this.2.1
def pc(T:bT)(row at_ k i:Nat):Rat:=if i<k/\i≠row then T.c i+T.f i at_*T.sC row at_ else T.c i
def pf(T:bT)(row at_ k i j:Nat):Rat:=if i<k/\i≠row then(if j=at_ then 0 else T.f i j)+T.f i at_*T.qX row at_ j else T.f i j
theorem qu{T:bT}{row at_ k i:Nat}(h:¬ (i<k/\i≠row)):pc T row at_ k i=T.c i:=if_neg h
theorem sV{T:bT}{row at_ k i j:Nat}(h:¬ (i<k/\i≠row)):pf T row at_ k i j=T.f i j:=if_neg h
theorem sW{T:bT}{row at_ k i:Nat}(h:i<k/\i≠row):pc T row at_ k i=T.c i+T.f i at_*T.sC row at_:=if_pos h
theorem sU{T:bT}{row at_ k i j:Nat}(h:i<k/\i≠row):pf T row at_ k i j=(if j=at_ then 0 else T.f i j)+T.f i at_*T.qX row at_ j:=if_pos h
def By(P:LP)(T:bT)(M:TM)(row at_ k:Nat)(C:Array Value):Prop:=∀ i,i<P.m->C[i*2]?=some (.string (qs (pc T row at_ k i)))/\C[i*2+1]?=some (.slice (some ⟨M.fb i,0,none⟩) P.n (M.fc i))
section
variable {P:LP} {T:bT} {M:TM} {row at_ k:Nat} {C D:Array Value} {w w' X:World}
theorem By.start(h:∀ i,i<P.m->C[i*2]?=some (.string (qs (T.c i)))/\C[i*2+1]?=some (.slice (some ⟨M.fb i,0,none⟩) P.n (M.fc i))):By P T M row at_ 0 C:=fun i hi=>⟨by rw[qu ae];exact(h i hi).1,(h i hi).2⟩
theorem By.skip(hk:k=row)(h:By P T M row at_ k C):By P T M row at_ (k+1) C:=fun i hi=>⟨by
 rw[(h i hi).1];by_cases hc:i<k/\i≠row
 ·rw[sW hc,sW ae]
 ·rw[qu hc,qu ae],(h i hi).2⟩
theorem By.now(h:By P T M row at_ k C)(hk:k<P.m):C[k*2]?=some (.string (qs (T.c k))):=by rw[(h k hk).1,qu ae]
theorem By.qcO(h:By P T M row at_ k C)(hk:row<P.m):C[row*2]?=some (.string (qs (T.c row))):=by rw[(h row hk).1,qu ae]
theorem By.step(hk:¬ k=row)(h:By P T M row at_ k C)(h1:D[k*2]?=some (.string (qs (T.c k+T.f k at_*T.sC row at_))))(h2:∀ i,i≠k*2->D[i]?=C[i]?):By P T M row at_ (k+1) D:=fun i hi=>⟨by
 by_cases AW:i=k
 ·subst AW;rw[h1,sW ae]
 ·rw[h2 (i*2) ae,(h i hi).1];by_cases hc:i<k/\i≠row
  ·rw[sW hc,sW ae]
  ·rw[qu hc,qu ae],by rw[h2 (i*2+1) ae];exact(h i hi).2⟩
theorem PvF.start{t:TypeId}(h:q5 w M.fb P.m P.n (fun i j => .string (qs (T.f i j))) t):q5 w M.fb P.m P.n (fun i j => .string (qs (pf T row at_ 0 i j))) t:=fun i hi =>
 let ⟨C,a,b⟩:=h i hi;⟨C,a,fun j hj=>by show C[j]?=some (.string (qs (pf T row at_ 0 i j)));rw[sV ae];exact b j hj⟩
theorem PvF.skip{t:TypeId}(hk:k=row)(h:q5 w M.fb P.m P.n (fun i j => .string (qs (pf T row at_ k i j))) t):q5 w M.fb P.m P.n (fun i j => .string (qs (pf T row at_ (k+1) i j))) t:=fun i hi =>
 let ⟨C,a,b⟩:=h i hi;⟨C,a,fun j hj=>by
  have:C[j]?=some (.string (qs (pf T row at_ k i j))):=b j hj;show C[j]?=some (.string (qs (pf T row at_ (k+1) i j)));by_cases hc:i<k/\i≠row
  ·rw[sU hc] at this;rw[sU ae];exact this
  ·rw[sV hc] at this;rw[sV ae];exact this⟩
theorem PvF.qfH{t:TypeId}(h:q5 w M.fb P.m P.n (fun i j => .string (qs (pf T row at_ k i j))) t)(hk:k<P.m):∃ C,ay w (M.fb k) C t/\∀ j,j<P.n->C[j]?=some (.string (qs (T.f k j))) :=
 let ⟨C,a,b⟩:=h k hk;⟨C,a,fun j hj=>by have:C[j]?=some (.string (qs (pf T row at_ k k j))):=b j hj;rwa[sV ae] at this⟩
theorem PvF.step {t : TypeId} (hm : Mv X w (fun q => q = M.lb ∨ q = M.fb k) w') (inj : ∀ i i', i < P.m -> i' < P.m -> M.fb i = M.fb i' -> i = i') (aP : k < P.m) (hk : ¬ k = row) (h : q5 w M.fb P.m P.n (fun i j => .string (qs (pf T row at_ k i j))) t) (hl : ∀ i, i < P.m -> M.fb i ≠ M.lb)
    (hB:ay w' (M.fb k) D t) (hD:∀ j,j<P.n->D[j]?=some (.string (qs ((if j=at_ then 0 else T.f k j)+T.f k at_*T.qX row at_ j)))):q5 w' M.fb P.m P.n (fun i j => .string (qs (pf T row at_ (k+1) i j))) t:=fun i hi=>by
 by_cases AW:i=k
 ·subst AW;exact⟨D,hB,fun j hj=>by show D[j]?=some (.string (qs (pf T row at_ (i+1) i j)));rw[sU ae];exact hD j hj⟩
 ·obtain⟨C,a,b⟩:=h i hi;refine⟨C,hm.aH a (fun e=>e.elim (hl i hi) (fun e=>AW (inj i k hi aP e))),fun j hj=>?_⟩;have:C[j]?=some (.string (qs (pf T row at_ k i j))):=b j hj;show C[j]?=some (.string (qs (pf T row at_ (k+1) i j)));by_cases hc:i<k/\i≠row
  ·rw[sU hc] at this;rw[sU ae];exact this
  ·rw[sV hc] at this;rw[sV ae];exact this
theorem Es {n:Nat} {f:Nat->Rat} {x:Rat} (h:∀ j,j<n->C[j]?=some (.string (qs (if j<k then f j else 0)))) (hk:k<n) (hx:x=f k) (j:Nat) (hj:j<n) :
    (C.setIfInBounds k (.string (qs x)))[j]?=some (.string (qs (if j<k+1 then f j else 0))):=by
 by_cases e:j=k
 ·subst e;rw[if_pos ae,← hx];exact mM (h j hj)
 ·rw[j5 (Ne.symm e) (h j hj)];by_cases h1:j<k
  ·rw[if_pos h1,if_pos ae]
  ·rw[if_neg h1,if_neg ae]
end
def TM.vU(M:TM)(row kz n:Nat):TM:={ M with fb:=fun i=>if i=row then kz else M.fb i,fc:=fun i=>if i=row then n else M.fc i }
section
variable {P:LP} {T:bT} {M:TM} {row at_ k kz p:Nat} {w:World}
theorem Sc {CP CB CO CK CY CW:Array Value} (hp:CP[0]?=some (.int .i64 (P.n:Int))/\CP[1]?=some (.slice (some ⟨M.bb,0,none⟩) P.m M.bc)/\CP[2]?=some (.slice (some ⟨M.lb,0,none⟩) P.m M.lc)/\CP[3]?=some (.slice (some ⟨M.ob,0,none⟩) P.n M.oc) /\
    CP[4]?=some (.string (qs (T.wc+T.wf at_*T.sC row at_)))/\CP[5]?=some (.slice (some ⟨M.wb,0,none⟩) P.n M.j4)) (bp:ay w p CP 185)
    (bb:ay w M.bb (CB.setIfInBounds row (.int .i64 (T.o at_:Int))) 3) (hb:∀ i,i<P.m->CB[i]?=some (.int .i64 (T.b i:Int))) (bo:ay w M.ob (CO.setIfInBounds at_ (.int .i64 (T.b row:Int))) 3) (ho:∀ j,j<P.n->CO[j]?=some (.int .i64 (T.o j:Int)))
    (bl:ay w M.lb ((CK.setIfInBounds (row*2) (.string (qs (T.sC row at_)))).setIfInBounds (row*2+1) (.slice (some ⟨kz,0,none⟩) P.n P.n)) 182) (hl:By P T M row at_ k CK) (hk:k=P.m) (hf:q5 w M.fb P.m P.n (fun i j => .string (qs (pf T row at_ k i j))) 34)
    (bz:ay w kz CY 34) (hz:∀ j,j<P.n->CY[j]?=some (.string (qs (T.qX row at_ j)))) (bw:ay w M.wb CW 34) (hw:∀ j,j<P.n->CW[j]?=some (.string (qs ((if j=at_ then 0 else T.wf j)+T.wf at_*T.qX row at_ j)))) (hr:row<P.m) (ha:at_<P.n)
    (inj:∀ i i',i<P.m->i'<P.m->M.fb i=M.fb i'->i=i') (fw:∀ i,i<P.m->M.fb i≠M.wb) (hbo:M.bb≠M.ob) (zn:∀ i,i<P.m->M.fb i≠kz) (zw:kz≠M.wb) (hcp:qeh P M) (hnm:P.n<=maxLen):Bw P (T.bu row at_) p (M.vU row kz P.n) w where
 tab:=⟨CP,bp,by
  have rQ:0<P.m:=ae;have dX:0<P.n:=ae;simp only[Bx,TM.vU,lL rQ,lL dX];exact hp⟩
 caps:=⟨hcp.b,hcp.l,hcp.o,hcp.w,fun i hi=>by
  simp only[TM.vU];split
  ·exact⟨Nat.le_refl _,hnm⟩
  ·exact hcp.f i hi⟩
 qY:=fun _=>⟨_,bb,fun i hi=>by
  by_cases e:i=row
  ·subst e;simp only[bT.bu,if_true];exact mM (hb i hi)
  ·simp only[bT.bu,if_neg e];exact j5 (Ne.symm e) (hb i hi)⟩
 LO:=fun _=>⟨_,bl,fun i hi=>by
  have dX:0<P.n:=ae;simp only[lL dX];by_cases e:i=row
  ·subst e;simp only[bT.bu,TM.vU,if_true];exact⟨j5 ae (mM (hl i hi).1),mM (j5 ae (hl i hi).2)⟩
  ·simp only[bT.bu,TM.vU,if_neg e];refine⟨j5 ae (j5 ae ?_),j5 ae (j5 ae (hl i hi).2)⟩;have:=(hl i hi).1;rwa[sW ae] at this⟩
 oth:=fun _=>⟨_,bo,fun j hj=>by
  by_cases e:j=at_
  ·subst e;simp only[bT.bu,if_true];exact mM (ho j hj)
  ·simp only[bT.bu,if_neg e];exact j5 (Ne.symm e) (ho j hj)⟩
 wor:=fun _=>⟨CW,bw,hw⟩
 r8:=fun _ i hi=>by
  by_cases e:i=row
  ·subst e;simp only[bT.bu,TM.vU,if_true];exact⟨CY,bz,hz⟩
  ·simp only[bT.bu,TM.vU,if_neg e];obtain⟨C,a,b⟩:=hf i hi;exact⟨C,a,fun j hj=>by have:C[j]?=some (.string (qs (pf T row at_ k i j))):=b j hj;rwa[sU ae] at this⟩
 inj:=fun _ i i' hi BZ e=>by
  simp only[TM.vU] at e;split at e <;> split at e
  ·omega
  ·exact absurd e.symm (zn i' BZ)
  ·exact absurd e (zn i hi)
  ·exact inj i i' hi BZ e
 fw:=fun _ i hi=>by
  simp only[TM.vU];split
  ·exact zw
  ·exact fw i hi
 bo:=fun _ _=>hbo
end
theorem Sb(P:LP)(T:bT)(p:Nat)(M:TM)(row at_ q:Nat)(X w:World)(g:Gd X)(hX:Ext X w)(xl:∀ k,M.S p P.m k->X.heap.size<=k)(hT:Bw P T p M w)(hr:row<P.m)(ha:at_<P.n)(E6:T.f row at_≠0)(hn:P.n<=1000)(hm:P.m<=1000)(jo:1<=q)(kn:q<=400)(qc:∀ i,i<P.m->QB q (T.c i))(qf:∀ i,i<P.m->∀ j,j<P.n->QB q (T.f i j))(qwc:QB q T.wc)(qw:∀ j,j<P.n->QB q (T.wf j)):Calls prog 200 #[.pointer (some ⟨p,0,none⟩),.int .i64 (row:Int),.int .i64 (at_:Int)] w (fun e w'=>e = .returned (.tuple #[])/\Mv X w (M.S p P.m) w'/\∃ kz,w.heap.size<=kz/\Bw P (T.bu row at_) p (M.vU row kz P.n) w'):=by
 have HG:=ai g;have HK:=ai E6;have HR:=ai hr;have HA:=ai ha;have JF:=ai qc;have uP:=ai qf;have qh9:=ai qwc;have HQw:=ai qw;clear g E6 hr ha qc qf qwc qw;have rQ:0<P.m:=by have:=HR.o;omega
 have dX:0<P.n:=by have:=HA.o;omega
 obtain⟨CP,b1,c1⟩:=hT.tab;obtain⟨CB,b2,c2⟩:=hT.qY rQ;obtain⟨CL,b3,c3⟩:=hT.LO rQ;obtain⟨CO,b4,c4⟩:=hT.oth dX;obtain⟨CW,b5,c5⟩:=hT.wor dX;have GB:=hT.r8 dX;simp only[Bx,lL rQ,lL dX] at c1;simp only[PD,lL dX] at c3;have qiF:=ai hT.caps;have jd:=ai b1;have ep:Hid (_/\_/\_/\_/\_/\_):=ai c1;have HBb:=ai b2;have Q0:=ai c2;have HBl:=ai b3;have zJ:=ai c3;have HBo:=ai b4;have HCO:=ai c4;have HBw:=ai b5;have HCW:=ai c5;have Hz:=ai GB;have qdC:=ai (hT.inj dX);have HFW:=ai (hT.fw dX);have HN7:=ai (hT.bo rQ dX);have LI:=ai (b1.ne b2 af);have Vu:=ai (b1.ne b3 af);have QY:=ai (b1.ne b4 af);have HN4:=ai (b1.ne b5 af);have HN6:=ai (b2.ne b3 af);have HN8:=ai (b2.ne b5 af);have TI:=ai (b3.ne b4 af);have TH:=ai (b3.ne b5 af);have qdm:=ai (b4.ne b5 af);have HFP:Hid (∀ i,i<P.m->M.fb i≠p):=ai (fun i hi=>let ⟨_,b,_⟩:=GB i hi;b.ne b1 af);have Zq:Hid (∀ i,i<P.m->M.fb i≠M.bb):=ai (fun i hi=>let ⟨_,b,_⟩:=GB i hi;b.ne b2 af);have Zp:Hid (∀ i,i<P.m->M.fb i≠M.lb):=ai (fun i hi=>let ⟨_,b,_⟩:=GB i hi;b.ne b3 af);have HFO:Hid (∀ i,i<P.m->M.fb i≠M.ob):=ai (fun i hi=>let ⟨_,b,_⟩:=GB i hi;b.ne b4 af);have qP:Hid (∀ i,i<P.m->M.fb i<w.heap.size):=ai (fun i hi=>let ⟨_,b,_⟩:=GB i hi;b.lt);have zE:Hid (Mv X w (M.S p P.m) w):=ai (Mv.refl hX xl);have HLO:Hid (X.heap.size<=p/\X.heap.size<=M.bb/\X.heap.size<=M.lb/\X.heap.size<=M.ob/\X.heap.size<=M.wb/\∀ i,i<P.m->X.heap.size<=M.fb i):=ai ⟨xl _ (Or.inl rfl),xl _ (Or.inr (Or.inl rfl)),xl _ (Or.inr (Or.inr (Or.inl rfl))),xl _ (Or.inr (Or.inr (Or.inr (Or.inl rfl)))),xl _ (Or.inr (Or.inr (Or.inr (Or.inr (Or.inl rfl))))),fun i hi=>xl _ (Or.inr (Or.inr (Or.inr (Or.inr (Or.inr ⟨i,hi,rfl⟩)))))⟩;have HQb:Hid (QB (q+q) (T.sC row at_)):=ai ((JF.o row HR.o).neg.div (uP.o row HR.o at_ HA.o) jo);have qdc:Hid (∀ j,j<P.n->QB (q+q) (T.qX row at_ j)):=ai (fun j hj=>QB.div (by split;exact(QB1.neg.mono jo).neg;exact(uP.o row HR.o j hj).neg) (uP.o row HR.o at_ HA.o) jo);have KS:(row:Int)<(P.m:Int):=by have:=HR.o;omega
 have ha2:(at_:Int)<(P.n:Int):=by have:=HA.o;omega
 clear GB rQ dX hX xl hT b1 b2 b3 b4 b5 c1 c2 c3 c4 c5;go_enter func200,ntmps200;have pT:=jd.o.cell (2) ep.o.2.2.1;have qH:=HBl.o.cell (row*2) ((zJ.o row HR.o).1);have kO:=HBl.o.cell (row*2+1) ((zJ.o row HR.o).2);go_upto_region 1 with fail
 refine aB (fun W=>Mv X w (M.S p P.m) W/\ay W (p) (CP) 185/\ay W (M.bb) (CB) 3/\ay W (M.lb) (CL) 182/\ay W (M.ob) (CO) 3/\ay W (M.wb) (CW) 34/\q5 W M.fb P.m P.n (fun i j => .string (qs (T.f i j))) 34/\ay W (w.heap.size) (#[.string (qs (T.c row)),.slice (some ⟨M.fb row,0,none⟩) P.n (M.fc row)]) 182) ⟨(zE.o.alloc _),(jd.o.alloc _),(HBb.o.alloc _),(HBl.o.alloc _),(HBo.o.alloc _),(HBw.o.alloc _),(Hz.o.alloc _),(ay.nw (#[.string (qs (T.c row)),.slice (some ⟨M.fb row,0,none⟩) P.n (M.fc row)]) 182)⟩ ?_;rintro w1 ⟨e1,Eu,U7,Ew,UY,UQ,Ve,a7⟩;have aD:=ai e1;have fG:=ai Eu;have VQ:=ai U7;have zK:=ai Ew;have VJ:=ai UY;have VH:=ai UQ;have fH:=ai Ve;have ax:=ai a7;have aF:Hid (w.heap.size<=w.heap.size):=ai (Nat.le_refl _);clear e1 Eu U7 Ew UY UQ Ve a7 pT qH kO;have aI:=ax.o.cell 1 rfl;have Hj:=fH.o.cell (HR.o) (HA.o);have Bm:=fG.o.cell (3) ep.o.2.2.2.1;go_wp2_with fail;refine(mI P.n ae _).mono ?_;rintro e w2 ⟨kz,CZ,rfl,e2,g_,b_,c_⟩;have gz:Hid (p≠kz):=ai (Nat.ne_of_lt (Nat.lt_of_lt_of_le fG.o.lt g_));have BJ:Hid (M.bb≠kz):=ai (Nat.ne_of_lt (Nat.lt_of_lt_of_le VQ.o.lt g_));have oZ:Hid (M.lb≠kz):=ai (Nat.ne_of_lt (Nat.lt_of_lt_of_le zK.o.lt g_));have BI:Hid (M.ob≠kz):=ai (Nat.ne_of_lt (Nat.lt_of_lt_of_le VJ.o.lt g_));have qN:Hid (M.wb≠kz):=ai (Nat.ne_of_lt (Nat.lt_of_lt_of_le VH.o.lt g_));have lX:Hid (w.heap.size≠kz):=ai (Nat.ne_of_lt (Nat.lt_of_lt_of_le ax.o.lt g_));have dE:Hid (w.heap.size<=kz):=ai (Nat.le_trans aD.o.size g_);have aM:=ai (aD.o.trans e2);have dr:=ai (fG.o.ext e2);have Qv:=ai (VQ.o.ext e2);have mB:=ai (zK.o.ext e2);have Qo:=ai (VJ.o.ext e2);have EP:=ai (VH.o.ext e2);have eM:=ai (fH.o.ext e2);have az:=ai (ax.o.ext e2);clear e2 aI Hj Bm;have eu:=ai b_;have o7:=ai c_;clear g_ b_ c_;go_upto_region 3 with fail
 refine aB (fun W=>Mv X w (M.S p P.m) W/\ay W (p) (CP) 185/\ay W (M.bb) (CB) 3/\ay W (M.lb) (CL) 182/\ay W (M.ob) (CO) 3/\ay W (M.wb) (CW) 34/\q5 W M.fb P.m P.n (fun i j => .string (qs (T.f i j))) 34/\ay W (w.heap.size) (#[.string (qs (T.c row)),.slice (some ⟨M.fb row,0,none⟩) P.n (M.fc row)]) 182/\ay W (kz) (CZ) 34/\ay W (w2.heap.size) (#[.string ⟨#[]⟩,.slice (some ⟨kz,0,none⟩) P.n P.n]) 182) ⟨(aM.o.alloc _),(dr.o.alloc _),(Qv.o.alloc _),(mB.o.alloc _),(Qo.o.alloc _),(EP.o.alloc _),(eM.o.alloc _),(az.o.alloc _),(eu.o.alloc _),(ay.nw (#[.string ⟨#[]⟩,.slice (some ⟨kz,0,none⟩) P.n P.n]) 182)⟩ ?_;rintro w3 ⟨e3,UU,U6,U0,UX,UP,Vd,cB,UN,iH⟩;have bA:=ai e3;have gD:=ai UU;have qeb:=ai U6;have Qs:=ai U0;have qdY:=ai UX;have qdS:=ai UP;have mD:=ai Vd;have aA:=ai cB;have fQ:=ai UN;have br:=ai iH;have aS:Hid (w.heap.size<=w2.heap.size):=ai (aM.o.size);clear e3 UU U6 U0 UX UP Vd cB UN iH;have aG:=aA.o.cell 0 rfl;go_wp2_with fail;refine cto (dS (T.c row) _ (JF.o row HR.o) ae) fun w4 e4=>?_
 have bO:=ai (bA.o.trans e4);have iJ:=ai (gD.o.ext e4);have qea:=ai (qeb.o.ext e4);have xS:=ai (Qs.o.ext e4);have qdX:=ai (qdY.o.ext e4);have qdR:=ai (qdS.o.ext e4);have o8:=ai (mD.o.ext e4);have aJ:=ai (aA.o.ext e4);have jY:=ai (fQ.o.ext e4);have aW:=ai (br.o.ext e4);clear e4 aG;go_wp2_with fail;refine cto (sN (-T.c row) (T.f row at_) _ (HG.o.ext (bO.o.ext)) (JF.o row HR.o).neg (uP.o row HR.o at_ HA.o) ae ae ae HK.o) fun w5 e5=>?_
 have cX:=ai (bO.o.trans e5);have xQ:=ai (iJ.o.ext e5);have qd9:=ai (qea.o.ext e5);have Qr:=ai (xS.o.ext e5);have qdW:=ai (qdX.o.ext e5);have qdQ:=ai (qdR.o.ext e5);have tV:=ai (o8.o.ext e5);have aT:=ai (aJ.o.ext e5);have Qi:=ai (jY.o.ext e5);have bI:=ai (aW.o.ext e5);clear e5;have cH:=bI.o.cell 0 rfl;have ji:=bI.o.free 0;go_upto_region 4 with fail
 refine aB (fun W=>Mv X w (M.S p P.m) W/\ay W (p) (CP) 185/\ay W (M.bb) (CB) 3/\ay W (M.lb) (CL) 182/\ay W (M.ob) (CO) 3/\ay W (M.wb) (CW) 34/\q5 W M.fb P.m P.n (fun i j => .string (qs (T.f i j))) 34/\ay W (w.heap.size) (#[.string (qs (T.c row)),.slice (some ⟨M.fb row,0,none⟩) P.n (M.fc row)]) 182/\ay W (kz) (CZ) 34/\ay W (w2.heap.size) (#[.string (qs (-T.c row / T.f row at_)),.slice (some ⟨kz,0,none⟩) P.n P.n]) 182) ⟨(cX.o.setCell (Or.inr (aS.o)) _),(xQ.o.other (a:=⟨w2.heap.size,0,none⟩) _ (by have:=dr.o.lt;first|omega|(simp only[];omega)|(simp;omega))),(qd9.o.other (a:=⟨w2.heap.size,0,none⟩) _ (by have:=Qv.o.lt;first|omega|(simp only[];omega)|(simp;omega))),(Qr.o.other (a:=⟨w2.heap.size,0,none⟩) _ (by have:=mB.o.lt;first|omega|(simp only[];omega)|(simp;omega))),(qdW.o.other (a:=⟨w2.heap.size,0,none⟩) _ (by have:=Qo.o.lt;first|omega|(simp only[];omega)|(simp;omega))),(qdQ.o.other (a:=⟨w2.heap.size,0,none⟩) _ (by have:=EP.o.lt;first|omega|(simp only[];omega)|(simp;omega))),(tV.o.other (a:=⟨w2.heap.size,0,none⟩) _ ((iw qP.o (show w.heap.size<=w2.heap.size from aS.o)))),(aT.o.other (a:=⟨w2.heap.size,0,none⟩) _ (Nat.ne_of_lt az.o.lt)),(Qi.o.other (a:=⟨w2.heap.size,0,none⟩) _ (by have:=eu.o.lt;first|omega|(simp only[];omega)|(simp;omega))),(bI.o.set 0 (.string (qs (-T.c row / T.f row at_))))⟩ ?_;rintro w6 ⟨e6,UR,U5,UZ,UW,UO,Vc,lH,UL,oU⟩;have gd:=ai e6;have qdU:=ai UR;have qd8:=ai U5;have qdZ:=ai UZ;have qdV:=ai UW;have qdP:=ai UO;have kW:=ai Vc;have bC:=ai lH;have qdO:=ai UL;have cx:=ai oU;clear e6 UR U5 UZ UW UO Vc lH UL oU cH ji;have aI:=bC.o.cell 1 rfl;go_wp2_with fail;clear aI;go_wp2_with fail;go_loopw [43] (fun bY wx=>∃ k:Nat,bY = .int .i64 k/\k<=P.n/\Hid (Mv X w6 (fun q=>q=kz) wx/\∃ CK,ay wx kz CK 34/\∀ j,j<P.n->CK[j]?=some (.string (qs (if j<k then T.qX row at_ j else 0))))) (fun bY _=>P.n-(intOf bY).toNat)
 case atStart=>exact⟨0,rfl,Nat.zero_le _,ai ⟨Mv.refl gd.o.ext (fun q h=>by rw[h];exact Nat.le_trans gd.o.base dE.o),_,qdO.o,fun j hj=>by rw[if_neg (Nat.not_lt_zero _),df];exact o7.o j hj⟩⟩
 case round =>
  rename World=>w7
  obtain⟨k,rfl,hk,HH⟩:=hrel;have PV:=ai HH.o.1;obtain⟨CK,gC,gY⟩:=HH.o.2;have Qh:=ai gC;have jb:=ai gY;clear gC gY HH;have JR:=ai (PV.o.aH qdU.o (fun h=>((show p≠kz from gz.o)) h));have Qu:=ai (PV.o.aH qd8.o (fun h=>((show M.bb≠kz from BJ.o)) h));have Qq:=ai (PV.o.aH qdZ.o (fun h=>((show M.lb≠kz from oZ.o)) h));have Qn:=ai (PV.o.aH qdV.o (fun h=>((show M.ob≠kz from BI.o)) h));have Qj:=ai (PV.o.aH qdP.o (fun h=>((show M.wb≠kz from qN.o)) h));have xT:=ai (kW.o.mv PV.o (fun i hi h=>(((iw qP.o (show w.heap.size<=kz from dE.o))) i hi) h));have cg:=ai (PV.o.aH bC.o (fun h=>((show w.heap.size≠kz from lX.o)) h));have bj:=ai (PV.o.aH cx.o (fun h=>((show w2.heap.size≠kz from by have:=eu.o.lt;first|omega|(simp only[];omega)|(simp;omega))) h));have ig:Hid (Mv X w (M.S p P.m) w7):=ai (gd.o.comp PV.o (fun q h=>by rw[h];exact(Or.inr dE.o)));by_cases aP:k<P.n
  ·have fj:(k:Int)<(P.n:Int):=ae;have V0:=jb.o k aP;rw[if_neg ae] at V0;have HZk:=ai V0;clear V0;by_cases hj:k=at_
   ·have XJ:((k:Int) == (at_:Int))=true:=by simp;omega
    have HJ:=ai hj;clear hj;have xo:=xT.o.cell (HR.o) (aP);go_wp2_with fail;clear xo;refine aE [.val (.pointer (some ⟨w2.heap.size,1,none⟩)),.val (.slice (some ⟨kz,0,none⟩) P.n P.n),.val (.int .i64 (k:Int)),.val (.string ⟨#[45,49]⟩),.val (.string (qs (1:Rat))),.val (.string (qs (T.f row at_))),.val (.tuple #[.string (qs ((1:Rat) / T.f row at_)),.int .i64 0]),.val (.tuple #[.string (qs ((1:Rat) / T.f row at_)),.int .i64 0]),.val (.string (qs ((1:Rat) / T.f row at_))),.val (.int .i64 0),.val (.pointer (some ⟨kz,k,none⟩)),.ch] (fun L g W=>(if L 11=true then ay W (kz) ((CK).setIfInBounds k (.string (qs ((1:Rat) / T.f row at_)))) 34 else ay W (kz) (CK) 34)) (S:=fun k=>k=kz) ag ag ag (Mv.refl ig.o.ext (fun k h=>(fun e=>Nat.le_trans (ig.o.le (Or.inr dE.o)) (Nat.le_of_eq e.symm)) h)) ?_ ?_ ?_ ?_ (fun fI w8 aK bW=>?_)
    ·exact fun B5=>(by rw[if_neg af];exact Qh.o.drew)
    ·exact fun L g W W1 h e=>cA (h) (fun h=>h.ext e) (fun h=>h.ext e)
    ·intro i v L g W hi h;have jz:i≠11:=gJ hi rfl;simp only[bB jz,bE jz];exact h
    ·skip
     refine RI 8 (.pointer (some ⟨w2.heap.size,0,none⟩))<|J2 (fun aw=>aw.val 0) (fun aw=>(aw.mv.aH bj.o (fun h=>((show w2.heap.size≠kz from by have:=eu.o.lt;first|omega|(simp only[];omega)|(simp;omega))) h)).cell 1 rfl)<|RI 9 (.int .i64 (k:Int))<|RI 10 (.string ⟨#[45,49]⟩)<|K1 (fun aw=>aw.val 3) (fun _=>RH _)<|RI 7 (.string (qs (T.f row at_)))<|K2 (fun aw=>aw.val 4) (fun aw=>aw.val 5) (fun aw=>sN (1:Rat) (T.f row at_) _ (HG.o.ext aw.mv.ext) QB1 (uP.o row HR.o at_ HA.o) ae ae ae HK.o)<|R1 6<|R1 7<|R1 7<|R2 1 2 ?_;refine aN.cons (fun L_ g_ A_ W_ aw=>?_) ?_
     ·have RU:=aw.val 10;have qfS:=aw.val 8;refine fl.ch fun K_ aL=>?_;have n_:=aw.not;have e_:=aw.e;rw[if_neg (by rw[n_];decide)] at e_;have B7:=e_.cell (k) HZk.o;have B6:=e_.free k;have a8:=ai e_;have bU:=ai aw.mv;have nS:=ai aw.e;clear e_ n_;go_simp;exact aL.o undef _ (bU.o.setCell (Or.inl (rfl)) _) (by rw[bS,if_pos rfl];exact(a8.o.set k _))
     exact aN.nil
    simp only[gm,Ke.value,b7,Act.put,aq,au,av];have jQ:=ai (ig.o.comp aK (fun k h=>(fun e=>(by rw[e];exact(Or.inr dE.o))) h));have ES:=ai (aK.aH JR.o (fun h=>((show p≠kz from gz.o)) h));have JV:=ai (aK.aH Qu.o (fun h=>((show M.bb≠kz from BJ.o)) h));have ET:=ai (aK.aH Qq.o (fun h=>((show M.lb≠kz from oZ.o)) h));have JS:=ai (aK.aH Qn.o (fun h=>((show M.ob≠kz from BI.o)) h));have JQ:=ai (aK.aH Qj.o (fun h=>((show M.wb≠kz from qN.o)) h));have zM:=ai (xT.o.mv aK (fun i hi h=>(((iw qP.o (show w.heap.size<=kz from dE.o))) i hi) h));have fR:=ai (aK.aH cg.o (fun h=>((show w.heap.size≠kz from lX.o)) h));have tS:Hid (ay w8 (kz) ((CK).setIfInBounds k (.string (qs ((1:Rat) / T.f row at_)))) 34):=ai (by have h_:=bW;rw[if_pos rfl] at h_;exact h_);have cE:=ai (aK.aH bj.o (fun h=>((show w2.heap.size≠kz from by have:=eu.o.lt;first|omega|(simp only[];omega)|(simp;omega))) h));have HMR:=ai aK;clear aK bW;go_wp2_with fail;go_roundw
    case rel=>exact⟨k+1,by go_num,ae,ai ⟨PV.o.comp HMR.o (fun q h=>Or.inl h),_,tS.o,Es jb.o aP (by rw[bT.qX,if_pos HJ.o];grind)⟩⟩
    case measure=>simp[intOf];omega
   ·have XJ:((k:Int) == (at_:Int))=false:=by simp;omega
    have HJ:=ai hj;clear hj;have xo:=xT.o.cell (HR.o) (aP);go_wp2_with fail;clear xo;refine aE [.val (.pointer (some ⟨w2.heap.size,1,none⟩)),.val (.slice (some ⟨kz,0,none⟩) P.n P.n),.val (.int .i64 (k:Int)),.val (.string (qs (T.f row k))),.val (.string (qs (-T.f row k))),.val (.string (qs (T.f row at_))),.val (.tuple #[.string (qs (-T.f row k / T.f row at_)),.int .i64 0]),.val (.tuple #[.string (qs (-T.f row k / T.f row at_)),.int .i64 0]),.val (.string (qs (-T.f row k / T.f row at_))),.val (.int .i64 0),.val (.pointer (some ⟨kz,k,none⟩)),.ch] (fun L g W=>(if L 11=true then ay W (kz) ((CK).setIfInBounds k (.string (qs (-T.f row k / T.f row at_)))) 34 else ay W (kz) (CK) 34)) (S:=fun k=>k=kz) ag ag ag (Mv.refl ig.o.ext (fun k h=>(fun e=>Nat.le_trans (ig.o.le (Or.inr dE.o)) (Nat.le_of_eq e.symm)) h)) ?_ ?_ ?_ ?_ (fun fI w8 aK bW=>?_)
    ·exact fun B5=>(by rw[if_neg af];exact Qh.o.drew)
    ·exact fun L g W W1 h e=>cA (h) (fun h=>h.ext e) (fun h=>h.ext e)
    ·intro i v L g W hi h;have jz:i≠11:=gJ hi rfl;simp only[bB jz,bE jz];exact h
    ·skip
     refine RI 8 (.pointer (some ⟨w2.heap.size,0,none⟩))<|J2 (fun aw=>aw.val 0) (fun aw=>(aw.mv.aH bj.o (fun h=>((show w2.heap.size≠kz from by have:=eu.o.lt;first|omega|(simp only[];omega)|(simp;omega))) h)).cell 1 rfl)<|RI 9 (.int .i64 (k:Int))<|RI 10 (.string (qs (T.f row k)))<|K1 (fun aw=>aw.val 3) (fun _=>dS (T.f row k) _ (uP.o row HR.o k aP) ae)<|RI 7 (.string (qs (T.f row at_)))<|K2 (fun aw=>aw.val 4) (fun aw=>aw.val 5) (fun aw=>sN (-T.f row k) (T.f row at_) _ (HG.o.ext aw.mv.ext) (uP.o row HR.o k aP).neg (uP.o row HR.o at_ HA.o) ae ae ae HK.o)<|R1 6<|R1 7<|R1 7<|R2 1 2 ?_;refine aN.cons (fun L_ g_ A_ W_ aw=>?_) ?_
     ·have RU:=aw.val 10;have qfS:=aw.val 8;refine fl.ch fun K_ aL=>?_;have n_:=aw.not;have e_:=aw.e;rw[if_neg (by rw[n_];decide)] at e_;have B7:=e_.cell (k) HZk.o;have B6:=e_.free k;have a8:=ai e_;have bU:=ai aw.mv;have nS:=ai aw.e;clear e_ n_;go_simp;exact aL.o undef _ (bU.o.setCell (Or.inl (rfl)) _) (by rw[bS,if_pos rfl];exact(a8.o.set k _))
     exact aN.nil
    simp only[gm,Ke.value,b7,Act.put,aq,au,av];have jQ:=ai (ig.o.comp aK (fun k h=>(fun e=>(by rw[e];exact(Or.inr dE.o))) h));have ES:=ai (aK.aH JR.o (fun h=>((show p≠kz from gz.o)) h));have JV:=ai (aK.aH Qu.o (fun h=>((show M.bb≠kz from BJ.o)) h));have ET:=ai (aK.aH Qq.o (fun h=>((show M.lb≠kz from oZ.o)) h));have JS:=ai (aK.aH Qn.o (fun h=>((show M.ob≠kz from BI.o)) h));have JQ:=ai (aK.aH Qj.o (fun h=>((show M.wb≠kz from qN.o)) h));have zM:=ai (xT.o.mv aK (fun i hi h=>(((iw qP.o (show w.heap.size<=kz from dE.o))) i hi) h));have fR:=ai (aK.aH cg.o (fun h=>((show w.heap.size≠kz from lX.o)) h));have tS:Hid (ay w8 (kz) ((CK).setIfInBounds k (.string (qs (-T.f row k / T.f row at_)))) 34):=ai (by have h_:=bW;rw[if_pos rfl] at h_;exact h_);have cE:=ai (aK.aH bj.o (fun h=>((show w2.heap.size≠kz from by have:=eu.o.lt;first|omega|(simp only[];omega)|(simp;omega))) h));have HMR:=ai aK;clear aK bW;go_wp2_with fail;go_roundw
    case rel=>exact⟨k+1,by go_num,ae,ai ⟨PV.o.comp HMR.o (fun q h=>Or.inl h),_,tS.o,Es jb.o aP (by rw[bT.qX,if_neg HJ.o])⟩⟩
    case measure=>simp[intOf];omega
  ·have eY:k=P.n:=ae;have kx:¬ (k:Int)<(P.n:Int):=ae;have HCY:Hid (∀ j,j<P.n->CK[j]?=some (.string (qs (T.qX row at_ j)))):=ai (fun j hj=>by have:=jb.o j hj;rwa[if_pos ae] at this);clear jb;have pT:=JR.o.cell (2) ep.o.2.2.1;go_wp2_with fail;clear pT;go_wp2_with fail;go_loopw [68] (fun bY wx=>∃ k2:Nat,bY = .int .i64 k2/\k2<=P.m/\Hid (Mv X w7 (fun q=>q=M.lb∨∃ i,i<P.m/\q=M.fb i) wx/\(∃ TV,ay wx M.lb TV 182/\By P T M row at_ k2 TV)/\q5 wx M.fb P.m P.n (fun i j => .string (qs (pf T row at_ k2 i j))) 34)) (fun bY _=>P.m-(intOf bY).toNat)
   case atStart=>exact⟨0,rfl,Nat.zero_le _,ai ⟨Mv.refl ig.o.ext (fun q h=>ig.o.low q ((fun q h=>h.elim (fun e=>Or.inr (Or.inr (Or.inl e))) (fun e=>Or.inr (Or.inr (Or.inr (Or.inr (Or.inr e)))))) q h)),⟨_,Qq.o,By.start zJ.o⟩,PvF.start xT.o⟩⟩
   case round =>
    rename World=>w8
    obtain⟨k2,rfl,hkm,HH⟩:=hrel;have QZ:=ai HH.o.1;obtain⟨TV,gC,gY⟩:=HH.o.2.1;have ET:=ai gC;have jb:=ai gY;have LL:=ai HH.o.2.2;clear gC gY HH;have ES:=ai (QZ.o.aH JR.o (fun h=>h.elim ((show p≠M.lb from Vu.o)) (fun h2=>(fun⟨i,hi,e⟩=>HFP.o i hi (e.symm)) h2)));have JV:=ai (QZ.o.aH Qu.o (fun h=>h.elim ((show M.bb≠M.lb from HN6.o)) (fun h2=>(fun⟨i,hi,e⟩=>Zq.o i hi (e.symm)) h2)));have JS:=ai (QZ.o.aH Qn.o (fun h=>h.elim ((show M.ob≠M.lb from fun h=>TI.o h.symm)) (fun h2=>(fun⟨i,hi,e⟩=>HFO.o i hi (e.symm)) h2)));have JQ:=ai (QZ.o.aH Qj.o (fun h=>h.elim ((show M.wb≠M.lb from fun h=>TH.o h.symm)) (fun h2=>(fun⟨i,hi,e⟩=>HFW.o i hi (e.symm)) h2)));have fR:=ai (QZ.o.aH cg.o (fun h=>h.elim ((show w.heap.size≠M.lb from by have:=HBl.o.lt;first|omega|(simp only[];omega)|(simp;omega))) (fun h2=>(fun⟨i,hi,e⟩=>(iw qP.o (show w.heap.size<=w.heap.size from aF.o)) i hi (e.symm)) h2)));have tS:=ai (QZ.o.aH Qh.o (fun h=>h.elim ((show kz≠M.lb from fun h=>oZ.o h.symm)) (fun h2=>(fun⟨i,hi,e⟩=>(iw qP.o (show w.heap.size<=kz from dE.o)) i hi (e.symm)) h2)));have cE:=ai (QZ.o.aH bj.o (fun h=>h.elim ((show w2.heap.size≠M.lb from by have:=mB.o.lt;first|omega|(simp only[];omega)|(simp;omega))) (fun h2=>(fun⟨i,hi,e⟩=>(iw qP.o (show w.heap.size<=w2.heap.size from aS.o)) i hi (e.symm)) h2)));have jQ:Hid (Mv X w (M.S p P.m) w8):=ai (ig.o.comp QZ.o (fun q h=>Or.inl ((fun q h=>h.elim (fun e=>Or.inr (Or.inr (Or.inl e))) (fun e=>Or.inr (Or.inr (Or.inr (Or.inr (Or.inr e)))))) q h)));by_cases aP:k2<P.m
    ·have fj:(k2:Int)<(P.m:Int):=ae;by_cases hj:k2=row
     ·have XJ:((k2:Int) != (row:Int))=false:=by simp;omega
      have HJ:=ai hj;clear hj;go_wp2_with fail;go_roundw
      case rel=>exact⟨k2+1,by go_num,ae,ai ⟨QZ.o,⟨_,ET.o,By.skip HJ.o jb.o⟩,PvF.skip HJ.o LL.o⟩⟩
      case measure=>simp[intOf];omega
     ·have XJ:((k2:Int) != (row:Int))=true:=by simp;omega
      have HJ:=ai hj;clear hj;obtain⟨CG,QT,g2_⟩:=PvF.qfH LL.o aP;have HBg:=ai QT;have HCG:=ai g2_;clear QT g2_;have qil:=ai (By.now jb.o aP);have qik:=ai (jb.o k2 aP).2;go_wp2_with fail;refine aE [.val (.pointer (some ⟨p,0,none⟩)),.val (.pointer (some ⟨p,0,none⟩)),.val (.pointer (some ⟨p,2,none⟩)),.val (.slice (some ⟨M.lb,0,none⟩) P.m M.lc),.val (.int .i64 (k2:Int)),.val (.pointer (some ⟨M.lb,k2*2,none⟩)),.val (.int .i64 (at_:Int)),.val (.agg #[.string (qs (-T.c row / T.f row at_)),.slice (some ⟨kz,0,none⟩) P.n P.n]),.ev (.tuple #[])] (fun L g W=>(if L 8=true then ∃ LD,ay W M.lb LD 182/\LD[k2*2]?=some (.string (qs (T.c k2+T.f k2 at_*T.sC row at_)))/\(∀ i,i≠k2*2->LD[i]?=TV[i]?)/\∃ FD,ay W (M.fb k2) FD 34/\∀ j,j<P.n->FD[j]?=some (.string (qs ((if j=at_ then 0 else T.f k2 j)+T.f k2 at_*T.qX row at_ j))) else ay W M.lb TV 182/\ay W (M.fb k2) CG 34)) (S:=fun k=>k=M.lb∨k=M.fb k2) ag ag ag (Mv.refl jQ.o.ext (fun k h=>h.elim (fun e=>Nat.le_trans (jQ.o.le (Or.inl (Or.inr (Or.inr (Or.inl rfl))))) (Nat.le_of_eq e.symm)) (fun h2=>(fun e=>Nat.le_trans (jQ.o.le (Or.inl (Or.inr (Or.inr (Or.inr (Or.inr (Or.inr ⟨k2,aP,rfl⟩))))))) (Nat.le_of_eq e.symm)) h2))) ?_ ?_ ?_ ?_ (fun fI w9 aK bW=>?_)
      ·exact fun B5=>(by rw[if_neg af];exact⟨ET.o.drew,HBg.o.drew⟩)
      ·exact fun L g W W1 h e=>cA (h) (fun⟨LD,b1,b2,b3,FD,b4,b5⟩=>⟨LD,b1.ext e,b2,b3,FD,b4.ext e,b5⟩) (fun h=>⟨h.1.ext e,h.2.ext e⟩)
      ·intro i v L g W hi h;have nT:i≠8:=gJ hi rfl;simp only[bB nT,bE nT];exact h
      ·skip
       refine RI 0 (.pointer (some ⟨p,0,none⟩))<|R1 0<|R1 1<|J2 (fun aw=>aw.val 2) (fun aw=>(aw.mv.aH ES.o (fun h=>h.elim ((show p≠M.lb from Vu.o)) (fun h2=>((show p≠M.fb k2 from fun h=>(HFP.o) k2 aP h.symm)) h2))).cell (2) ep.o.2.2.1)<|RI 11 (.int .i64 (k2:Int))<|R2 3 4<|RI 2 (.int .i64 (at_:Int))<|J3 (fun aw=>aw.is 8 (.pointer (some ⟨w2.heap.size,0,none⟩))) (fun aw=>(aw.mv.aH cE.o (fun h=>h.elim ((show w2.heap.size≠M.lb from by have:=mB.o.lt;first|omega|(simp only[];omega)|(simp;omega))) (fun h2=>((show w2.heap.size≠M.fb k2 from fun h=>((iw qP.o (show w.heap.size<=w2.heap.size from aS.o))) k2 aP h.symm)) h2))).cell 0 rfl) (fun aw=>(aw.mv.aH cE.o (fun h=>h.elim ((show w2.heap.size≠M.lb from by have:=mB.o.lt;first|omega|(simp only[];omega)|(simp;omega))) (fun h2=>((show w2.heap.size≠M.fb k2 from fun h=>((iw qP.o (show w.heap.size<=w2.heap.size from aS.o))) k2 aP h.symm)) h2))).cell 1 rfl) ?_;refine aN.cons (fun L_ g_ A_ W_ aw=>?_) ?_
       ·have qlJ:=aw.val 5;have qfM:=aw.val 6;have qfL:=aw.val 7;refine fl.ev fun K_ aL=>?_;have n_:=aw.not;have e_:=aw.e;rw[if_neg (by rw[n_];decide)] at e_;have a8:=ai e_;have bU:=ai aw.mv;clear e_ n_;go_simp;refine(T9 X M.lb (k2*2) (M.fb k2) (M.fc k2) P.n at_ kz P.n (q+q) (T.c k2) (T.sC row at_) (T.f k2) (T.qX row at_) TV CG CK 182 _ HG.o bU.o.ext HLO.o.2.2.1 (HLO.o.2.2.2.2.2 k2 aP) (fun h=>(Zp.o) k2 aP h.symm) (fun h=>oZ.o h.symm) (fun h=>((iw qP.o (show w.heap.size<=kz from dE.o))) k2 aP h.symm) a8.o.1 a8.o.2 (bU.o.aH tS.o (fun h=>h.elim ((show kz≠M.lb from fun h=>oZ.o h.symm)) (fun h2=>((show kz≠M.fb k2 from fun h=>((iw qP.o (show w.heap.size<=kz from dE.o))) k2 aP h.symm)) h2))) qil.o qik.o HCG.o HCY.o HA.o ae ae ae ((JF.o k2 aP).mono ae) HQb.o (fun j hj=>(uP.o k2 aP j hj).mono ae) qdc.o).mono ?_;rintro e jG ⟨rfl,m9_,l9_⟩;exact aL.o _ (bU.o.comp m9_ (fun q h=>Or.inl h)) (by rw[bS,if_pos rfl];exact l9_)
       exact aN.nil
      simp only[gm,Ke.value,b7,Act.put,aq,au,av];have qM:=ai (jQ.o.comp aK (fun k h=>h.elim (fun e=>(by rw[e];exact(Or.inl (Or.inr (Or.inr (Or.inl rfl)))))) (fun h2=>(fun e=>(by rw[e];exact(Or.inl (Or.inr (Or.inr (Or.inr (Or.inr (Or.inr ⟨k2,aP,rfl⟩)))))))) h2)));have Qm:=ai (aK.aH ES.o (fun h=>h.elim ((show p≠M.lb from Vu.o)) (fun h2=>((show p≠M.fb k2 from fun h=>(HFP.o) k2 aP h.symm)) h2)));have VP:=ai (aK.aH JV.o (fun h=>h.elim ((show M.bb≠M.lb from HN6.o)) (fun h2=>((show M.bb≠M.fb k2 from fun h=>(Zq.o) k2 aP h.symm)) h2)));have VI:=ai (aK.aH JS.o (fun h=>h.elim ((show M.ob≠M.lb from fun h=>TI.o h.symm)) (fun h2=>((show M.ob≠M.fb k2 from fun h=>(HFO.o) k2 aP h.symm)) h2)));have VG:=ai (aK.aH JQ.o (fun h=>h.elim ((show M.wb≠M.lb from fun h=>TH.o h.symm)) (fun h2=>((show M.wb≠M.fb k2 from fun h=>(HFW.o) k2 aP h.symm)) h2)));have tW:=ai (aK.aH fR.o (fun h=>h.elim ((show w.heap.size≠M.lb from by have:=HBl.o.lt;first|omega|(simp only[];omega)|(simp;omega))) (fun h2=>((show w.heap.size≠M.fb k2 from fun h=>((iw qP.o (show w.heap.size<=w.heap.size from aF.o))) k2 aP h.symm)) h2)));have VF:=ai (aK.aH tS.o (fun h=>h.elim ((show kz≠M.lb from fun h=>oZ.o h.symm)) (fun h2=>((show kz≠M.fb k2 from fun h=>((iw qP.o (show w.heap.size<=kz from dE.o))) k2 aP h.symm)) h2)));have nL:=ai (aK.aH cE.o (fun h=>h.elim ((show w2.heap.size≠M.lb from by have:=mB.o.lt;first|omega|(simp only[];omega)|(simp;omega))) (fun h2=>((show w2.heap.size≠M.fb k2 from fun h=>((iw qP.o (show w.heap.size<=w2.heap.size from aS.o))) k2 aP h.symm)) h2)));have h_:=(bW);rw[if_pos rfl] at h_;obtain⟨LD,b1,b2,b3,FD,b4,b5⟩:=h_;have Qp:=ai b1;have VA:=ai b2;have xL:=ai b3;have qd0:=ai b4;have HFD:=ai b5;clear b1 b2 b3 b4 b5;have HMR:=ai aK;clear aK bW;go_wp2_with fail;go_roundw
      case rel=>exact⟨k2+1,by go_num,ae,ai ⟨QZ.o.comp HMR.o (fun q h=>Or.inl (h.elim Or.inl (fun e=>Or.inr ⟨k2,aP,e⟩))),⟨_,Qp.o,By.step HJ.o jb.o VA.o xL.o⟩,PvF.step HMR.o qdC.o aP HJ.o LL.o Zp.o qd0.o HFD.o⟩⟩
      case measure=>simp[intOf];omega
    ·have eY:k2=P.m:=ae;have kx:¬ (k2:Int)<(P.m:Int):=ae;have qii:=ai (By.qcO jb.o HR.o);have qih:=ai (jb.o row HR.o).2;go_wp2_with fail;refine aE [.val (.pointer (some ⟨p,0,none⟩)),.val (.pointer (some ⟨p,0,none⟩)),.val (.pointer (some ⟨p,4,none⟩)),.val (.int .i64 (at_:Int)),.val (.agg #[.string (qs (-T.c row / T.f row at_)),.slice (some ⟨kz,0,none⟩) P.n P.n]),.ev (.tuple #[])] (fun L g W=>(if L 5=true then ∃ LD,ay W p LD 185/\LD[4]?=some (.string (qs (T.wc+T.wf at_*T.sC row at_)))/\(∀ i,i≠4->LD[i]?=CP[i]?)/\∃ FD,ay W M.wb FD 34/\∀ j,j<P.n->FD[j]?=some (.string (qs ((if j=at_ then 0 else T.wf j)+T.wf at_*T.qX row at_ j))) else ay W p CP 185/\ay W M.wb CW 34)) (S:=fun k=>k=p∨k=M.wb) ag ag ag (Mv.refl jQ.o.ext (fun k h=>h.elim (fun e=>Nat.le_trans (jQ.o.le (Or.inl (Or.inl rfl))) (Nat.le_of_eq e.symm)) (fun h2=>(fun e=>Nat.le_trans (jQ.o.le (Or.inl (Or.inr (Or.inr (Or.inr (Or.inr (Or.inl rfl))))))) (Nat.le_of_eq e.symm)) h2))) ?_ ?_ ?_ ?_ (fun fI w9 aK bW=>?_)
     ·exact fun B5=>(by rw[if_neg af];exact⟨ES.o.drew,JQ.o.drew⟩)
     ·exact fun L g W W1 h e=>cA (h) (fun⟨LD,b1,b2,b3,FD,b4,b5⟩=>⟨LD,b1.ext e,b2,b3,FD,b4.ext e,b5⟩) (fun h=>⟨h.1.ext e,h.2.ext e⟩)
     ·intro i v L g W hi h;have yX:i≠5:=gJ hi rfl;simp only[bB yX,bE yX];exact h
     ·skip
      refine RI 0 (.pointer (some ⟨p,0,none⟩))<|R1 0<|R1 1<|RI 2 (.int .i64 (at_:Int))<|J3 (fun aw=>aw.is 8 (.pointer (some ⟨w2.heap.size,0,none⟩))) (fun aw=>(aw.mv.aH cE.o (fun h=>h.elim ((show w2.heap.size≠p from by have:=dr.o.lt;first|omega|(simp only[];omega)|(simp;omega))) (fun h2=>((show w2.heap.size≠M.wb from by have:=EP.o.lt;first|omega|(simp only[];omega)|(simp;omega))) h2))).cell 0 rfl) (fun aw=>(aw.mv.aH cE.o (fun h=>h.elim ((show w2.heap.size≠p from by have:=dr.o.lt;first|omega|(simp only[];omega)|(simp;omega))) (fun h2=>((show w2.heap.size≠M.wb from by have:=EP.o.lt;first|omega|(simp only[];omega)|(simp;omega))) h2))).cell 1 rfl) ?_;refine aN.cons (fun L_ g_ A_ W_ aw=>?_) ?_
      ·have qfJ:=aw.val 2;have qlH:=aw.val 3;have qlG:=aw.val 4;refine fl.ev fun K_ aL=>?_;have n_:=aw.not;have e_:=aw.e;rw[if_neg (by rw[n_];decide)] at e_;have a8:=ai e_;have bU:=ai aw.mv;clear e_ n_;go_simp;refine(T9 X p 4 M.wb M.j4 P.n at_ kz P.n (q+q) T.wc (T.sC row at_) T.wf (T.qX row at_) CP CW CK 185 _ HG.o bU.o.ext HLO.o.1 HLO.o.2.2.2.2.1 (HN4.o) (fun h=>gz.o h.symm) (fun h=>qN.o h.symm) a8.o.1 a8.o.2 (bU.o.aH tS.o (fun h=>h.elim ((show kz≠p from fun h=>gz.o h.symm)) (fun h2=>((show kz≠M.wb from fun h=>qN.o h.symm)) h2))) ep.o.2.2.2.2.1 ep.o.2.2.2.2.2 HCW.o HCY.o HA.o ae ae ae (qh9.o.mono ae) HQb.o (fun j hj=>(HQw.o j hj).mono ae) qdc.o).mono ?_;rintro e jG ⟨rfl,m9_,l9_⟩;exact aL.o _ (bU.o.comp m9_ (fun q h=>Or.inl h)) (by rw[bS,if_pos rfl];exact l9_)
      exact aN.nil
     simp only[gm,Ke.value,b7,Act.put,aq,au,av];have qM:=ai (jQ.o.comp aK (fun k h=>h.elim (fun e=>(by rw[e];exact(Or.inl (Or.inl rfl)))) (fun h2=>(fun e=>(by rw[e];exact(Or.inl (Or.inr (Or.inr (Or.inr (Or.inr (Or.inl rfl)))))))) h2)));have VP:=ai (aK.aH JV.o (fun h=>h.elim ((show M.bb≠p from fun h=>LI.o h.symm)) (fun h2=>((show M.bb≠M.wb from HN8.o)) h2)));have Qp:=ai (aK.aH ET.o (fun h=>h.elim ((show M.lb≠p from fun h=>Vu.o h.symm)) (fun h2=>((show M.lb≠M.wb from TH.o)) h2)));have VI:=ai (aK.aH JS.o (fun h=>h.elim ((show M.ob≠p from fun h=>QY.o h.symm)) (fun h2=>((show M.ob≠M.wb from qdm.o)) h2)));have tW:=ai (aK.aH fR.o (fun h=>h.elim ((show w.heap.size≠p from by have:=jd.o.lt;first|omega|(simp only[];omega)|(simp;omega))) (fun h2=>((show w.heap.size≠M.wb from by have:=HBw.o.lt;first|omega|(simp only[];omega)|(simp;omega))) h2)));have VF:=ai (aK.aH tS.o (fun h=>h.elim ((show kz≠p from fun h=>gz.o h.symm)) (fun h2=>((show kz≠M.wb from fun h=>qN.o h.symm)) h2)));have nL:=ai (aK.aH cE.o (fun h=>h.elim ((show w2.heap.size≠p from by have:=dr.o.lt;first|omega|(simp only[];omega)|(simp;omega))) (fun h2=>((show w2.heap.size≠M.wb from by have:=EP.o.lt;first|omega|(simp only[];omega)|(simp;omega))) h2)));have nK:=ai (LL.o.mv aK (fun i hi h=>h.elim ((HFP.o) i hi) (fun h2=>((HFW.o) i hi) h2)));have h_:=(bW);rw[if_pos rfl] at h_;obtain⟨LP_,b1,b2,b3,FD,b4,b5⟩:=h_;have Qm:=ai b1;have HLP:=ai b2;have Qb:=ai b3;have VG:=ai b4;have HWD:=ai b5;clear b1 b2 b3 b4 b5;clear aK bW;have HP1:=ai (And.intro ((Qb.o 0 af).trans ep.o.1) (And.intro ((Qb.o 1 af).trans ep.o.2.1) (And.intro ((Qb.o 2 af).trans ep.o.2.2.1) (And.intro ((Qb.o 3 af).trans ep.o.2.2.2.1) (And.intro HLP.o ((Qb.o 5 af).trans ep.o.2.2.2.2.2))))));go_wp2_with fail;refine aE [.val (.pointer (some ⟨p,0,none⟩)),.val (.pointer (some ⟨p,0,none⟩)),.val (.pointer (some ⟨p,2,none⟩)),.val (.slice (some ⟨M.lb,0,none⟩) P.m M.lc),.val (.int .i64 (row:Int)),.val (.agg #[.string (qs (-T.c row / T.f row at_)),.slice (some ⟨kz,0,none⟩) P.n P.n]),.val (.pointer (some ⟨M.lb,row*2,none⟩)),.ch] (fun L g W=>(if L 7=true then ay W (M.lb) (((TV).setIfInBounds (row*2) (.string (qs (-T.c row / T.f row at_)))).setIfInBounds (row*2+1) (.slice (some ⟨kz,0,none⟩) P.n P.n)) 182 else ay W (M.lb) (TV) 182)) (S:=fun k=>k=M.lb) ag ag ag (Mv.refl qM.o.ext (fun k h=>(fun e=>Nat.le_trans (qM.o.le (Or.inl (Or.inr (Or.inr (Or.inl rfl))))) (Nat.le_of_eq e.symm)) h)) ?_ ?_ ?_ ?_ (fun fI JZ aK bW=>?_)
     ·exact fun B5=>(by rw[if_neg af];exact Qp.o.drew)
     ·exact fun L g W W1 h e=>cA (h) (fun h=>h.ext e) (fun h=>h.ext e)
     ·intro i v L g W hi h;have k5:i≠7:=gJ hi rfl;simp only[bB k5,bE k5];exact h
     ·skip
      refine RI 0 (.pointer (some ⟨p,0,none⟩))<|R1 0<|R1 1<|J2 (fun aw=>aw.val 2) (fun aw=>(aw.mv.aH Qm.o (fun h=>((show p≠M.lb from Vu.o)) h)).cell (2) HP1.o.2.2.1)<|RI 1 (.int .i64 (row:Int))<|J3 (fun aw=>aw.is 8 (.pointer (some ⟨w2.heap.size,0,none⟩))) (fun aw=>(aw.mv.aH nL.o (fun h=>((show w2.heap.size≠M.lb from by have:=mB.o.lt;first|omega|(simp only[];omega)|(simp;omega))) h)).cell 0 rfl) (fun aw=>(aw.mv.aH nL.o (fun h=>((show w2.heap.size≠M.lb from by have:=mB.o.lt;first|omega|(simp only[];omega)|(simp;omega))) h)).cell 1 rfl)<|R2 3 4 ?_;refine aN.cons (fun L_ g_ A_ W_ aw=>?_) ?_
      ·have qlC:=aw.val 6;have qlD:=aw.val 5;refine fl.ch fun K_ aL=>?_;have n_:=aw.not;have e_:=aw.e;rw[if_neg (by rw[n_];decide)] at e_;have B7:=e_.cell (row*2) qii.o;have B6:=e_.free (row*2);have UF:=e_.cell (row*2+1) qih.o;have UA:=e_.free (row*2+1);have a8:=ai e_;have bU:=ai aw.mv;have nS:=ai aw.e;clear e_ n_;go_simp;exact aL.o undef _ ((bU.o.setCell (Or.inl (rfl)) _).setCell (Or.inl (rfl)) _) (by rw[bS,if_pos rfl];exact((a8.o.set (row*2) _).set (row*2+1) _))
      exact aN.nil
     simp only[gm,Ke.value,b7,Act.put,aq,au,av];have ko:=ai (qM.o.comp aK (fun k h=>(fun e=>(by rw[e];exact(Or.inl (Or.inr (Or.inr (Or.inl rfl)))))) h));have xR:=ai (aK.aH Qm.o (fun h=>((show p≠M.lb from Vu.o)) h));have ZI:=ai (aK.aH VP.o (fun h=>((show M.bb≠M.lb from HN6.o)) h));have ZG:Hid (ay JZ (M.lb) (((TV).setIfInBounds (row*2) (.string (qs (-T.c row / T.f row at_)))).setIfInBounds (row*2+1) (.slice (some ⟨kz,0,none⟩) P.n P.n)) 182):=ai (by have h_:=bW;rw[if_pos rfl] at h_;exact h_);have ZE:=ai (aK.aH VI.o (fun h=>((show M.ob≠M.lb from fun h=>TI.o h.symm)) h));have ZA:=ai (aK.aH VG.o (fun h=>((show M.wb≠M.lb from fun h=>TH.o h.symm)) h));have qT:=ai (aK.aH tW.o (fun h=>((show w.heap.size≠M.lb from by have:=HBl.o.lt;first|omega|(simp only[];omega)|(simp;omega))) h));have Zy:=ai (aK.aH VF.o (fun h=>((show kz≠M.lb from fun h=>oZ.o h.symm)) h));have nH:=ai (aK.aH nL.o (fun h=>((show w2.heap.size≠M.lb from by have:=mB.o.lt;first|omega|(simp only[];omega)|(simp;omega))) h));have BV:=ai (nK.o.mv aK (fun i hi h=>((Zp.o) i hi) h));clear aK bW;go_wp2_with fail;refine aE [.val (.pointer (some ⟨p,0,none⟩)),.val (.pointer (some ⟨p,0,none⟩)),.val (.pointer (some ⟨p,1,none⟩)),.val (.slice (some ⟨M.bb,0,none⟩) P.m M.bc),.val (.int .i64 (row:Int)),.val (.pointer (some ⟨p,0,none⟩)),.val (.pointer (some ⟨p,0,none⟩)),.val (.pointer (some ⟨p,3,none⟩)),.val (.slice (some ⟨M.ob,0,none⟩) P.n M.oc),.val (.int .i64 (at_:Int)),.val (.pointer (some ⟨p,0,none⟩)),.val (.pointer (some ⟨p,0,none⟩)),.val (.pointer (some ⟨p,3,none⟩)),.val (.slice (some ⟨M.ob,0,none⟩) P.n M.oc),.val (.int .i64 (at_:Int)),.val (.pointer (some ⟨M.ob,at_,none⟩)),.val (.int .i64 (T.o at_:Int)),.val (.pointer (some ⟨p,0,none⟩)),.val (.pointer (some ⟨p,0,none⟩)),.val (.pointer (some ⟨p,1,none⟩)),.val (.slice (some ⟨M.bb,0,none⟩) P.m M.bc),.val (.int .i64 (row:Int)),.val (.pointer (some ⟨M.bb,row,none⟩)),.val (.int .i64 (T.b row:Int)),.val (.pointer (some ⟨M.bb,row,none⟩)),.ch,.val (.pointer (some ⟨M.ob,at_,none⟩)),.ch] (fun L g W=>(if L 25=true then ay W (M.bb) ((CB).setIfInBounds row (.int .i64 (T.o at_:Int))) 3 else ay W (M.bb) (CB) 3)/\(if L 27=true then ay W (M.ob) ((CO).setIfInBounds at_ (.int .i64 (T.b row:Int))) 3 else ay W (M.ob) (CO) 3)) (S:=fun k=>k=M.bb∨k=M.ob) ag ag ag (Mv.refl ko.o.ext (fun k h=>h.elim (fun e=>Nat.le_trans (ko.o.le (Or.inl (Or.inr (Or.inl rfl)))) (Nat.le_of_eq e.symm)) (fun h2=>(fun e=>Nat.le_trans (ko.o.le (Or.inl (Or.inr (Or.inr (Or.inr (Or.inl rfl)))))) (Nat.le_of_eq e.symm)) h2))) ?_ ?_ ?_ ?_ (fun fI QM aK bW=>?_)
     ·exact fun B5=>⟨(by rw[if_neg af];exact ZI.o.drew),(by rw[if_neg af];exact ZE.o.drew)⟩
     ·exact fun L g W W1 h e=>⟨cA (h.1) (fun h=>h.ext e) (fun h=>h.ext e),cA (h.2) (fun h=>h.ext e) (fun h=>h.ext e)⟩
     ·intro i v L g W hi h;have NC:i≠25:=gJ hi rfl;have NB:i≠27:=gJ hi rfl;simp only[bB NC,bE NC,bB NB,bE NB];exact h
     ·skip
      refine RI 0 (.pointer (some ⟨p,0,none⟩))<|R1 0<|R1 1<|J2 (fun aw=>aw.val 2) (fun aw=>(aw.mv.aH xR.o (fun h=>h.elim ((show p≠M.bb from LI.o)) (fun h2=>((show p≠M.ob from QY.o)) h2))).cell (1) HP1.o.2.1)<|RI 1 (.int .i64 (row:Int))<|RI 0 (.pointer (some ⟨p,0,none⟩))<|R1 5<|R1 6<|J2 (fun aw=>aw.val 7) (fun aw=>(aw.mv.aH xR.o (fun h=>h.elim ((show p≠M.bb from LI.o)) (fun h2=>((show p≠M.ob from QY.o)) h2))).cell (3) HP1.o.2.2.2.1)<|RI 2 (.int .i64 (at_:Int))<|RI 0 (.pointer (some ⟨p,0,none⟩))<|R1 10<|R1 11<|J2 (fun aw=>aw.val 12) (fun aw=>(aw.mv.aH xR.o (fun h=>h.elim ((show p≠M.bb from LI.o)) (fun h2=>((show p≠M.ob from QY.o)) h2))).cell (3) HP1.o.2.2.2.1)<|RI 2 (.int .i64 (at_:Int))<|R2 13 14 ?_;refine RV (fun A_ aw K_ aL=>?_) ?_;· have qjl:=aw.val 15;have NB:=aw.no 27 af ag;have Yk:=aw.e.2;rw[if_neg (by rw[NB];decide)] at Yk;have th:=Yk.cell (at_) (HCO.o at_ HA.o);clear Yk NB;go_simp;exact du aL
      refine RI 0 (.pointer (some ⟨p,0,none⟩))<|R1 17<|R1 18<|J2 (fun aw=>aw.val 19) (fun aw=>(aw.mv.aH xR.o (fun h=>h.elim ((show p≠M.bb from LI.o)) (fun h2=>((show p≠M.ob from QY.o)) h2))).cell (1) HP1.o.2.1)<|RI 1 (.int .i64 (row:Int))<|R2 20 21 ?_;refine RV (fun A_ aw K_ aL=>?_) ?_;· have qjj:=aw.val 22;have NC:=aw.no 25 af ag;have Yl:=aw.e.1;rw[if_neg (by rw[NC];decide)] at Yl;have qho:=Yl.cell (row) (Q0.o row HR.o);clear Yl NC;go_simp;exact du aL
      refine R2 3 4 ?_;refine aN.cons (fun L_ g_ A_ W_ aw=>?_) ?_
      ·have qjh:=aw.val 24;have qjk:=aw.val 16;refine fl.ch fun K_ aL=>?_;have n_:=aw.not;have e_:=aw.e.1;rw[if_neg (by rw[n_];decide)] at e_;have B7:=e_.cell (row) (Q0.o row HR.o);have B6:=e_.free row;have a8:=ai e_;have bU:=ai aw.mv;have nS:=ai aw.e;clear e_ n_;go_simp;exact aL.o undef _ (bU.o.setCell (Or.inl (Or.inl rfl)) _) ⟨(by rw[bS,if_pos rfl];exact(a8.o.set row _)),(by rw[bB af];exact(IY nS.o.2 (fun h=>h.other (a:=⟨M.bb,row,none⟩) _ (fun h=>HN7.o h.symm)) (fun h=>h.other (a:=⟨M.bb,row,none⟩) _ (fun h=>HN7.o h.symm))))⟩
      refine R2 8 9 ?_;refine aN.cons (fun L_ g_ A_ W_ aw=>?_) ?_
      ·have qjg:=aw.val 26;have qji:=aw.val 23;refine fl.ch fun K_ aL=>?_;have n_:=aw.not;have e_:=aw.e.2;rw[if_neg (by rw[n_];decide)] at e_;have B7:=e_.cell (at_) (HCO.o at_ HA.o);have B6:=e_.free at_;have a8:=ai e_;have bU:=ai aw.mv;have nS:=ai aw.e;clear e_ n_;go_simp;exact aL.o undef _ (bU.o.setCell (Or.inl (Or.inr (rfl))) _) ⟨(by rw[bB af];exact(IY nS.o.1 (fun h=>h.other (a:=⟨M.ob,at_,none⟩) _ (HN7.o)) (fun h=>h.other (a:=⟨M.ob,at_,none⟩) _ (HN7.o)))),(by rw[bS,if_pos rfl];exact(a8.o.set at_ _))⟩
      exact aN.nil
     simp only[gm,Ke.value,b7,Act.put,aq,au,av];have sr:=ai (ko.o.comp aK (fun k h=>h.elim (fun e=>(by rw[e];exact(Or.inl (Or.inr (Or.inl rfl))))) (fun h2=>(fun e=>(by rw[e];exact(Or.inl (Or.inr (Or.inr (Or.inr (Or.inl rfl))))))) h2)));have ZC:=ai (aK.aH xR.o (fun h=>h.elim ((show p≠M.bb from LI.o)) (fun h2=>((show p≠M.ob from QY.o)) h2)));have ZH:Hid (ay QM (M.bb) ((CB).setIfInBounds row (.int .i64 (T.o at_:Int))) 3):=ai (by have h_:=bW.1;rw[if_pos rfl] at h_;exact h_);have ZF:=ai (aK.aH ZG.o (fun h=>h.elim ((show M.lb≠M.bb from fun h=>HN6.o h.symm)) (fun h2=>((show M.lb≠M.ob from TI.o)) h2)));have ZD:Hid (ay QM (M.ob) ((CO).setIfInBounds at_ (.int .i64 (T.b row:Int))) 3):=ai (by have h_:=bW.2;rw[if_pos rfl] at h_;exact h_);have Zz:=ai (aK.aH ZA.o (fun h=>h.elim ((show M.wb≠M.bb from fun h=>HN8.o h.symm)) (fun h2=>((show M.wb≠M.ob from fun h=>qdm.o h.symm)) h2)));have jH:=ai (aK.aH qT.o (fun h=>h.elim ((show w.heap.size≠M.bb from by have:=HBb.o.lt;first|omega|(simp only[];omega)|(simp;omega))) (fun h2=>((show w.heap.size≠M.ob from by have:=HBo.o.lt;first|omega|(simp only[];omega)|(simp;omega))) h2)));have Zx:=ai (aK.aH Zy.o (fun h=>h.elim ((show kz≠M.bb from fun h=>BJ.o h.symm)) (fun h2=>((show kz≠M.ob from fun h=>BI.o h.symm)) h2)));have nG:=ai (aK.aH nH.o (fun h=>h.elim ((show w2.heap.size≠M.bb from by have:=Qv.o.lt;first|omega|(simp only[];omega)|(simp;omega))) (fun h2=>((show w2.heap.size≠M.ob from by have:=Qo.o.lt;first|omega|(simp only[];omega)|(simp;omega))) h2)));have ZJ:=ai (BV.o.mv aK (fun i hi h=>h.elim ((Zq.o) i hi) (fun h2=>((HFO.o) i hi) h2)));clear aK bW;have HZN:Hid (∀ i,i<P.m->M.fb i≠kz):=ai (iw qP.o dE.o);go_wp2
     first|go_end0|((try simp only[Exit.inBlock,Exit.then]);refine bodyPost_ret (results_none rfl _ _ _) rfl ?_)
     exact⟨rfl,sr.o,kz,dE.o,Sc HP1.o ZC.o ZH.o Q0.o ZD.o HCO.o ZF.o jb.o eY ZJ.o Zx.o HCY.o Zz.o HWD.o HR.o HA.o qdC.o HFW.o HN7.o HZN.o qN.o.symm qiF.o (by have:=hn;unfold maxLen;omega)⟩
