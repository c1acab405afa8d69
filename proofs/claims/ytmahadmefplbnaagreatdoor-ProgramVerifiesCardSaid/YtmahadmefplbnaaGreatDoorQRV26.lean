/- Part 26. -/
import Derived.Test.YtmahadmefplbnaaGreatDoorQRV25
import Derived.Laws.CopyOwn
import Derived.Deep.OwnRows
import Derived.Deep.CutBlock
set_option maxRecDepth 100000
set_option maxHeartbeats 2000000
set_option linter.unusedSimpArgs false
set_option linter.unusedVariables false
theorem Go.Proofs.YtmahadmefplbnaaGreatDoor.Hi26 {p:Prop} (h:p):Go.RowKit.Hid p:=h
namespace Go.Proofs.YtmahadmefplbnaaGreatDoor
open Go Go.RowKit
theorem mul1_c (n:Nat) (hn:n<=1000) (w:World):Calls Tryz.prog 214 #[.int .u64 1,.int .u64 (n:Int)] w fun e w'=>e = .returned (.tuple #[.int .u64 0,.int .u64 (n:Int)])/\w=w':=by
 have h:=Tryz.bits_Mul 1 n (by omega) (by omega) w;have e1:1*n / 18446744073709551616=0:=by omega
 have e2:1*n % 18446744073709551616=n:=by omega
 rw [e1,e2] at h;exact h.mono (fun _ _ h=>⟨h.1,h.2.symm⟩)
theorem info_s:(Tryz.prog.info? 34).map (fun i=>(i.zero,i.size,i.bytes))=some (some (.string ⟨#[]⟩),1,16):=by kernel_rfl
theorem size_s:(Tryz.prog.info? 34).map (·.size)=some 1:=by kernel_rfl
theorem oneZ_at {w:World} {k:Nat} {z:Value} {t:TypeId} (h:Blk w k #[z] t):∀ j v,[z][j]?=some v->w.cell? ((⟨k,0,none⟩:Addr).add j)=some v:=by
 intro j v hv;cases j with
 | zero=>simp only [List.getElem?_cons_zero] at hv;rw [← hv];exact h.cell 0 rfl
 | succ j=>simp at hv
theorem Ext.setRow {X w:World} {k:Nat} {cs cur:Array Value} {t:TypeId} (h:Ext X w) (hk:X.heap.size<=k) (hB:Blk w k cur t):Ext X (w.setRow k cs):=below_setRow h hk cs
theorem Blk.setRow {w:World} {k:Nat} {cs cur:Array Value} {t:TypeId} (hB:Blk w k cur t):Blk (w.setRow k cs) k cs t:=⟨setRow_heap w k cur cs t (0,0) hB.out⟩
theorem Mv.setRow {X w W:World} {S:Nat->Prop} {k:Nat} {cs cur:Array Value} {t:TypeId} (h:Mv X w S W) (hk:S k∨w.heap.size<=k) (hB:Blk W k cur t):Mv X w S (W.setRow k cs) :=
 ⟨h.ext.setRow (h.le hk) hB,h.base,h.low,by rw [size_setRow];exact h.size,fun q c t' hq hB'=>⟨(setRow_other W k q cs (fun e=>hk.elim (fun hs=>hq (e▸hs)) (fun hs=>by have:=hB'.lt;omega))).trans (h.fr q c t' hq hB').out⟩⟩
theorem op_copy {P:Program} {w w':World} {o:Oper} {a:Act} {Q:Exit->Act->World->Prop} {K:Act->World->Prop} {d s:Operand} {dT sT:TypeId} {v dv sv:Value} (hgd:o.guard=none)
    (ho:o.op = .call { callee:=.builtin .copy,args:=#[d,s],argTypes:=#[dT,sT] }) (hd:a.eval d=dv) (hs:a.eval s=sv) (hr:(Builtin.copy_ #[dT,sT] o.type #[dv,sv]).run P w = .ok v w')
    (h:K (a.put o.dst v) w'):o.wp P a w K Q:=by
 unfold Oper.wp;simp [execOp,ho,resolve,invoke,builtin,hd,hs,hr,Result.andThen];exact h
theorem min_ex {c n:Nat} (h:0<c) (h2:c<n):∃ m,m=Nat.min c (n-c)/\m<=c/\m<=n-c/\0<m:=by
 refine ⟨_,rfl,Nat.min_le_left _ _,Nat.min_le_right _ _,?_⟩;have:0<min c (n-c):=by omega
 exact this
theorem rep_size {n c m:Nat} {z:Value} {CK:Array Value} (hs:CK.size=n) (hcn:c<=n) (hm:m<=n-c):(CK.toList.take c ++ List.replicate m z ++ CK.toList.drop (c+m)).toArray.size=n:=by
 simp [hs];omega
def Mk (w:World) (n:Nat) (z:Value) (t:TypeId) (e:Ending) (w':World):Prop:=∃ (k:Nat) (CZ:Array Value),e = .returned (.slice (some ⟨k,0,none⟩) n n)/\Ext w w'/\w.heap.size<=k/\Blk w' k CZ t/\∀ j,j<n->CZ[j]?=some z
theorem Mk.of {w w':World} {n k:Nat} {z:Value} {t:TypeId} {CZ:Array Value} (h1:Ext w w') (h2:w.heap.size<=k) (h3:Blk w' k CZ t) (h4:∀ j,j<n->CZ[j]?=some z):Mk w n z t (.returned (.slice (some ⟨k,0,none⟩) n n)) w':=⟨k,CZ,rfl,h1,h2,h3,h4⟩
theorem first_size {n:Nat} {z:Value} {C0:Array Value} (hz:C0.size=n) (hn0:0<n):(z :: C0.toList.tail).toArray.size=n:=by
 simp [hz];omega
theorem first_cell {z:Value} {C0:Array Value}:∀ j,j<1->(z :: C0.toList.tail).toArray[j]?=some z:=fun j hj=>by
 have:j=0:=by omega
 subst this;simp
theorem rep_src {w:World} {k c m:Nat} {CK:Array Value} {t:TypeId} {z:Value} (h:Blk w k CK t) (hc:∀ j,j<c->CK[j]?=some z) (hm:m<=c):∀ j v,(List.replicate m z)[j]?=some v->w.cell? ((⟨k,0,none⟩:Addr).add j)=some v:=by
 intro j v hv;rw [List.getElem?_replicate] at hv;split at hv
 ·rename_i hj;have e:(⟨k,0,none⟩:Addr).add j=⟨k,j,none⟩:=by unfold Addr.add;split <;> simp_all
  rw [e,← hv];exact h.cell j (hc j (by omega))
 ·cases hv
theorem rep_one (m:Nat):∀ v ∈ List.replicate m (Value.string ⟨#[48]⟩),v.oneCell'=true:=fun v hv=>by rw [List.eq_of_mem_replicate hv];rfl
theorem rep_next {n c m:Nat} {z:Value} {CK:Array Value} (hc:∀ j,j<c->CK[j]?=some z) (hs:CK.size=n) (hcn:c<=n) (hm:m<=n-c) (j:Nat) (hj:j<c+m) :
    (CK.toList.take c ++ List.replicate m z ++ CK.toList.drop (c+m)).toArray[j]?=some z:=by
 have hl:(CK.toList.take c).length=c:=by simp [hs];omega
 simp only [List.getElem?_toArray];by_cases h1:j<c
 ·rw [List.append_assoc,List.getElem?_append_left (by omega),List.getElem?_take,if_pos h1,Array.getElem?_toList];exact hc j h1
 ·rw [List.getElem?_append_left (by simp [hl];omega),List.getElem?_append_right (by omega),hl,List.getElem?_replicate,if_pos (by omega)]
theorem rep_pos (xb n:Nat) (w:World) (bx:Blk w xb #[.string ⟨#[48]⟩] 34) (hn0:0<n) (hn:n<=1000):Calls Tryz.prog 142 #[.slice (some ⟨xb,0,none⟩) 1 1,.int .i64 (n:Int)] w (Mk w n (.string ⟨#[48]⟩) 34):=by
 have HB:=Hi26 bx;clear bx;have h0:¬ (n:Int)<0:=by omega
 have hmk:=run_make_row' (P:=Tryz.prog) 30 34 (.string ⟨#[]⟩) 16 Tryz.underlying30 info_s rfl .i64 .i64 n (by omega) (by omega);go_enter Tryz.func142,Tryz.ntmps142;go_upto_region 7 with (go_at_call 214;refine (mul1_c n hn w).mono ?_;rintro e _ ⟨rfl,rfl⟩)
 refine wp_name (fun W=>Ext w W/\Blk W xb #[.string ⟨#[48]⟩] 34/\∃ C0,Blk W w.heap.size C0 34/\C0.size=n) ⟨(Ext.refl w).alloc _,HB.out.alloc _,_,Blk.new _ _ _,size_madeCells _ _⟩ ?_;rintro w1 ⟨e1,b1,C0,b2,hz⟩;go_upto_block 0 with (refine wpList_copy_own rfl (.tmp 31) (.tmp 32) 30 30 rfl 34 Tryz.underlying30 size_s w.heap.size 0 n n ⟨xb,0,none⟩ 1 1 rfl rfl C0 34 b2.out [.string ⟨#[48]⟩] (by simp [Nat.min_def];omega) (oneZ_at b1) (by simp;omega) (by intro v hv;simp at hv;subst hv;rfl) ?_)
 refine wp_name (fun W=>Ext w W/\∃ C1,Blk W w.heap.size C1 34/\C1.size=n/\∀ j,j<1->C1[j]?=some (.string ⟨#[48]⟩)) ⟨e1.setRow (Nat.le_refl _) b2,_,b2.setRow,first_size hz hn0,first_cell⟩ ?_;clear b1 b2 hz e1 hmk;rintro w2 ⟨e2,C1,b3,hz,hc⟩;have HX2:=Hi26 e2;have HZ1:=Hi26 b3;have HZS:=Hi26 hz;have HZC:=Hi26 hc;clear e2 b3 hz hc;go_wp2_with fail;go_loopw [8] (fun x0_ wx=>∃ c:Nat,x0_ = .int .i64 c/\0<c/\c<=n/\Hid (Ext w wx/\∃ CK,Blk wx w.heap.size CK 34/\CK.size=n/\∀ j,j<c->CK[j]?=some (.string ⟨#[48]⟩))) (fun x0_ _=>n-(intOf x0_).toNat)
 case atStart=>exact ⟨1,rfl,by omega,by omega,Hi26 ⟨HX2.out,C1,HZ1.out,HZS.out,HZC.out⟩⟩
 case round =>
  rename World=>w3
  obtain ⟨c,rfl,hc0,hc1,HH⟩:=hrel;have HX3:=Hi26 HH.out.1;obtain ⟨CK,a1_,a2_,a3_⟩:=HH.out.2;have HBz_3:=Hi26 a1_;have HCS:=Hi26 a2_;have HCK:=Hi26 a3_;clear a1_ a2_ a3_ HH;by_cases hlt:c<n
  ·have hlt2:(c:Int)<(n:Int):=by omega
   have hne:¬ n=c:=by omega
   obtain ⟨m,em,em1,em2,em3⟩:=min_ex hc0 hlt;have HEM:=Hi26 em;clear em;go_wp2_with fail;refine region_e [.val (.int .i64 (c:Int)),.val (.slice (some ⟨w.heap.size,0,none⟩) n n),.val (.int .i64 (c:Int)),.val (.slice (some ⟨w.heap.size,c,none⟩) (n-c) (n-c)),.val (.slice (some ⟨w.heap.size,0,none⟩) n n),.val (.int .i64 (c:Int)),.val (.slice (some ⟨w.heap.size,0,none⟩) c n),.ev (.int .i64 (m:Int)),.val (.int .i64 (c+m:Int)),.val (.int .i64 (c+m:Int))] (fun L g W=>(if L 7=true then ∃ CD,Blk W w.heap.size CD 34/\CD.size=n/\∀ j,j<c+m->CD[j]?=some (.string ⟨#[48]⟩) else Blk W w.heap.size CK 34)) (S:=fun k=>k=w.heap.size) (by kernel_rfl) (by kernel_rfl) (by kernel_rfl) (Mv.refl HX3.out (fun k h=>(fun e=>Nat.le_trans (show w.heap.size<=w.heap.size from (Nat.le_refl _)) (Nat.le_of_eq e.symm)) h)) ?_ ?_ ?_ ?_ (fun gv_ w4 hm_ he_=>?_)
   ·exact fun gz_=>(by rw [if_neg (by decide)];exact HBz_3.out.drew)
   ·exact fun L g W W1 h e=>ite_ext (h) (fun ⟨CD,b,c⟩=>⟨CD,b.ext e,c⟩) (fun h=>h.ext e)
   ·intro i v L g W hi h;have n7_:i≠7:=fun e=>by subst e;exact absurd (show false=true from hi) (by decide)
    simp only [up_ne n7_,ug_ne n7_];exact h
   ·skip
    refine RI 8 (.int .i64 (c:Int))<|RI 7 (.slice (some ⟨w.heap.size,0,none⟩) n n)<|RI 8 (.int .i64 (c:Int))<|R2 1 2<|RI 7 (.slice (some ⟨w.heap.size,0,none⟩) n n)<|RI 8 (.int .i64 (c:Int))<|R2 4 5 ?_;refine RnEL.cons (fun L_ g_ A_ W_ hs_=>?_) ?_
    ·have q41_:=hs_.val 3;have q44_:=hs_.val 6;refine RnE.ev fun K_ hK_=>?_;have n_:=hs_.not;have e_:=hs_.e;rw [if_neg (by rw [n_];decide)] at e_;have HM_:=hs_.mv;have hr_:=run_copy_row (P:=Tryz.prog) W_ 30 30 3 34 w.heap.size c (n-c) (n-c) ⟨w.heap.size,0,none⟩ c n CK 34 (List.replicate m (.string ⟨#[48]⟩)) Tryz.underlying30 size_s e_.out (by rw [List.length_replicate];exact HEM.out) (rep_src e_ HCK.out em1) (by rw [List.length_replicate,HCS.out];omega) (rep_one _);refine op_copy rfl rfl (by go_simp) (by go_simp) hr_ ?_;rw [List.length_replicate];exact hK_.out _ (HM_.setRow (Or.inl rfl) e_) (by rw [up_at,if_pos rfl];exact ⟨_,e_.setRow,rep_size HCS.out hc1 em2,rep_next HCK.out HCS.out hc1 em2⟩)
    refine RV (fun A_ hs_ K_ hK_=>?_) ?_;· have q38_:=hs_.val 0;have q45_:=hs_.ev 7;go_simp;try go_bits;exact fin_ hK_
    exact R1 8<|RnEL.nil
   simp only [fse,Ke.value,puts,Act.put,List.setIfInBounds_toArray,List.set_cons_zero,List.set_cons_succ];have HX4:Hid (Ext w w4):=Hi26 hm_.ext;have h_:=(he_);rw [if_pos rfl] at h_;obtain ⟨CD,a1_,a2_,a3_⟩:=h_;have HBz_4:=Hi26 a1_;have HDS:=Hi26 a2_;have HCD:=Hi26 a3_;clear a1_ a2_ a3_;clear hm_ he_;go_wp2_with fail;go_roundw
   case rel=>exact ⟨c+m,by go_num,by omega,by omega,Hi26 ⟨HX4.out,CD,HBz_4.out,HDS.out,HCD.out⟩⟩
   case measure=>simp [intOf];omega
  ·have hk2:c=n:=by omega
   subst hk2;have hge:¬ (c:Int)<(c:Int):=by omega
   go_wp2;go_ret;exact Mk.of HX3.out (Nat.le_refl _) HBz_3.out HCK.out
theorem rep_zero (xb:Nat) (w:World):Calls Tryz.prog 142 #[.slice (some ⟨xb,0,none⟩) 1 1,.int .i64 0] w (Mk w 0 (.string ⟨#[48]⟩) 34):=by
 have hmk:=run_make_row' (P:=Tryz.prog) 30 34 (.string ⟨#[]⟩) 16 Tryz.underlying30 info_s rfl .i64 .i64 0 (by omega) (by omega);have hmu:=mul1_c 0 (by omega);simp only [Int.natCast_zero,Int.cast_ofNat_Int] at hmk hmu;go_enter Tryz.func142,Tryz.ntmps142;go_upto_region 7 with (go_at_call 214;refine (hmu w).mono ?_;rintro e _ ⟨rfl,rfl⟩)
 refine wp_name (fun W=>Ext w W/\∃ C0,Blk W w.heap.size C0 34) ⟨(Ext.refl w).alloc _,_,Blk.new _ _ _⟩ ?_;rintro w1 ⟨e1,C0,b2⟩;have HX:=Hi26 e1;have HB:=Hi26 b2;clear e1 b2 hmk hmu;go_upto_block 0 with (refine wpList_copy_nothing rfl (.tmp 31) (.tmp 32) 30 30 rfl 34 Tryz.underlying30 size_s _ _ _ _ _ _ rfl rfl (by simp) ?_)
 go_wp2_with fail;refine wp_loop_rounds 1 ?_;rw [rounds_succ];go_wp2;go_ret;exact Mk.of HX.out (Nat.le_refl _) HB.out (fun j hj=>absurd hj (by omega))
theorem zeros_c (n:Nat) (hn:n<=1000) (w:World):Calls Tryz.prog 60 #[.int .i64 n] w (Mk w n (.string ⟨#[48]⟩) 34):=by
 go_enter Tryz.func60,Tryz.ntmps60;go_wp2_with fail;have hb:Blk (w.alloc (.cells #[.string ⟨#[48]⟩] 34)) w.heap.size #[.string ⟨#[48]⟩] 34:=Blk.new _ _ _;by_cases h0:n=0
 ·subst h0;refine (rep_zero _ _).mono ?_;rintro e w1 ⟨k,CZ,rfl,h1,h2,h3,h4⟩;have HH:=Hi26 (Mk.of (z:=.string ⟨#[48]⟩) (n:=0) (((Ext.refl w).alloc _).trans h1) (Nat.le_trans (Nat.le_of_lt (by simp)) h2) h3 h4);clear h1 h2 h3 h4 hb;go_wp2;go_ret;exact HH.out
 ·refine (rep_pos _ n _ hb (by omega) hn).mono ?_;rintro e w1 ⟨k,CZ,rfl,h1,h2,h3,h4⟩;have HH:=Hi26 (Mk.of (n:=n) (((Ext.refl w).alloc _).trans h1) (Nat.le_trans (Nat.le_of_lt (by simp)) h2) h3 h4);clear h1 h2 h3 h4 hb;go_wp2;go_ret;exact HH.out
theorem QB1:QB 1 (1:Rat):=QB.int (n:=1) (k:=1) ⟨by decide⟩ (by decide)
theorem rneg_m1 (w:World):Calls Tryz.prog 62 #[.string ⟨#[45,49]⟩] w (Ret w (.string (qs 1))):=by
 have h:=rneg_c (-1) w (QB.int (n:=-1) (k:=1) ⟨by decide⟩ (by decide)) (by decide);have e:qs (-1)=⟨#[45,49]⟩:=qs_m1;rw [e] at h;have e2:-(-1:Rat)=1:=by decide
 rwa [e2] at h
def Fam (w:World) (fb:Nat->Nat) (m n:Nat) (g:Nat->Nat->Value) (t:TypeId):Prop:=∀ i,i<m->∃ C,Blk w (fb i) C t/\∀ j,j<n->C[j]?=some (g i j)
section
variable {w w' X:World} {S:Nat->Prop} {fb:Nat->Nat} {m n:Nat} {g:Nat->Nat->Value} {t:TypeId}
theorem Fam.ext (h:Fam w fb m n g t) (e:Ext w w'):Fam w' fb m n g t:=fun i hi=>let ⟨C,a,b⟩:=h i hi;⟨C,a.ext e,b⟩
theorem Fam.alloc (h:Fam w fb m n g t) (o:Obj):Fam (w.alloc o) fb m n g t:=h.ext ((Ext.refl _).alloc o)
theorem Fam.drew (h:Fam w fb m n g t):Fam w.drew fb m n g t:=h.ext (Ext.refl _).drew
theorem Fam.other (h:Fam w fb m n g t) {a:Addr} (u:Value) (hk:∀ i,i<m->fb i≠a.block):Fam (w.setCell a u) fb m n g t:=fun i hi=>let ⟨C,a,b⟩:=h i hi;⟨C,a.other u (hk i hi),b⟩
theorem Fam.mv (h:Fam w fb m n g t) (hm:Mv X w S w') (hk:∀ i,i<m->¬ S (fb i)):Fam w' fb m n g t:=fun i hi=>let ⟨C,a,b⟩:=h i hi;⟨C,hm.blk a (hk i hi),b⟩
theorem fam_ne {N k:Nat} (h:∀ i,i<m->fb i<N) (hk:N<=k):∀ i,i<m->fb i≠k:=fun i hi e=>by have:=h i hi;omega
theorem Fam.cell (h:Fam w fb m n g t) {i j:Nat} (hi:i<m) (hj:j<n):w.cell? ⟨fb i,j,none⟩=some (g i j):=let ⟨C,a,b⟩:=h i hi;a.cell j (b j hj)
end
structure TM where
 bb:Nat
 bc:Nat
 lb:Nat
 lc:Nat
 ob:Nat
 oc:Nat
 wb:Nat
 wcap:Nat
 fb:Nat->Nat
 fc:Nat->Nat
 bx:Option Addr
 lx:Option Addr
 ox:Option Addr
 wx:Option Addr
 fx:Nat->Option Addr
def oa (n k:Nat) (x:Option Addr):Option Addr:=if 0<n then some ⟨k,0,none⟩ else x
theorem oa_pos {n k:Nat} {x:Option Addr} (h:0<n):oa n k x=some ⟨k,0,none⟩:=if_pos h
def TM.S (M:TM) (p m:Nat) (k:Nat):Prop:=k=p∨k=M.bb∨k=M.lb∨k=M.ob∨k=M.wb∨∃ i,i<m/\k=M.fb i
def TCells (P:LP) (T:Tab) (M:TM) (CP:Array Value):Prop :=
 CP[0]?=some (.int .i64 (P.n:Int))/\CP[1]?=some (.slice (oa P.m M.bb M.bx) P.m M.bc)/\CP[2]?=some (.slice (oa P.m M.lb M.lx) P.m M.lc)/\CP[3]?=some (.slice (oa P.n M.ob M.ox) P.n M.oc) /\
 CP[4]?=some (.string (qs T.wc))/\CP[5]?=some (.slice (oa P.n M.wb M.wx) P.n M.wcap)
def LCells (P:LP) (T:Tab) (M:TM) (CL:Array Value):Prop:=∀ i,i<P.m->CL[i*2]?=some (.string (qs (T.c i)))/\CL[i*2+1]?=some (.slice (oa P.n (M.fb i) (M.fx i)) P.n (M.fc i))
structure Caps (P:LP) (M:TM):Prop where
 b:P.m<=M.bc/\M.bc<=maxLen
 l:P.m<=M.lc/\M.lc<=maxLen
 o:P.n<=M.oc/\M.oc<=maxLen
 w:P.n<=M.wcap/\M.wcap<=maxLen
 f:∀ i,i<P.m->P.n<=M.fc i/\M.fc i<=maxLen
structure TMem (P:LP) (T:Tab) (p:Nat) (M:TM) (w:World):Prop where
 tab:∃ CP,Blk w p CP 185/\TCells P T M CP
 bas:0<P.m->∃ CB,Blk w M.bb CB 3/\∀ i,i<P.m->CB[i]?=some (.int .i64 (T.b i:Int))
 lin:0<P.m->∃ CL,Blk w M.lb CL 182/\LCells P T M CL
 oth:0<P.n->∃ CO,Blk w M.ob CO 3/\∀ j,j<P.n->CO[j]?=some (.int .i64 (T.o j:Int))
 wor:0<P.n->∃ CW,Blk w M.wb CW 34/\∀ j,j<P.n->CW[j]?=some (.string (qs (T.wf j)))
 fac:0<P.n->Fam w M.fb P.m P.n (fun i j => .string (qs (T.f i j))) 34
 inj:0<P.n->∀ i i',i<P.m->i'<P.m->M.fb i=M.fb i'->i=i'
 fw:0<P.n->∀ i,i<P.m->M.fb i≠M.wb
 bo:0<P.m->0<P.n->M.bb≠M.ob
 caps:Caps P M
theorem Blk.ne {w:World} {k k':Nat} {cs cs':Array Value} {t t':TypeId} (h:Blk w k cs t) (h':Blk w k' cs' t') (ht:t≠t'):k≠k':=fun e=>by
 subst e;have:=h.out.symm.trans h'.out;simp only [Option.some.injEq,Obj.cells.injEq] at this;exact ht this.2.1
def pc (T:Tab) (row at_ k i:Nat):Rat:=if i<k/\i≠row then T.c i+T.f i at_*T.byc row at_ else T.c i
def pf (T:Tab) (row at_ k i j:Nat):Rat:=if i<k/\i≠row then (if j=at_ then 0 else T.f i j)+T.f i at_*T.byf row at_ j else T.f i j
theorem pc_not {T:Tab} {row at_ k i:Nat} (h:¬ (i<k/\i≠row)):pc T row at_ k i=T.c i:=if_neg h
theorem pf_not {T:Tab} {row at_ k i j:Nat} (h:¬ (i<k/\i≠row)):pf T row at_ k i j=T.f i j:=if_neg h
theorem pc_yes {T:Tab} {row at_ k i:Nat} (h:i<k/\i≠row):pc T row at_ k i=T.c i+T.f i at_*T.byc row at_:=if_pos h
theorem pf_yes {T:Tab} {row at_ k i j:Nat} (h:i<k/\i≠row):pf T row at_ k i j=(if j=at_ then 0 else T.f i j)+T.f i at_*T.byf row at_ j:=if_pos h
def PvL (P:LP) (T:Tab) (M:TM) (row at_ k:Nat) (C:Array Value):Prop:=∀ i,i<P.m->C[i*2]?=some (.string (qs (pc T row at_ k i)))/\C[i*2+1]?=some (.slice (some ⟨M.fb i,0,none⟩) P.n (M.fc i))
section
variable {P:LP} {T:Tab} {M:TM} {row at_ k:Nat} {C D:Array Value} {w w' X:World}
theorem PvL.start (h:∀ i,i<P.m->C[i*2]?=some (.string (qs (T.c i)))/\C[i*2+1]?=some (.slice (some ⟨M.fb i,0,none⟩) P.n (M.fc i))):PvL P T M row at_ 0 C:=fun i hi=>⟨by rw [pc_not (by omega)];exact (h i hi).1,(h i hi).2⟩
theorem PvL.skip (hk:k=row) (h:PvL P T M row at_ k C):PvL P T M row at_ (k+1) C:=fun i hi=>⟨by
 rw [(h i hi).1];by_cases hc:i<k/\i≠row
 ·rw [pc_yes hc,pc_yes (by omega)]
 ·rw [pc_not hc,pc_not (by omega)],(h i hi).2⟩
theorem PvL.now (h:PvL P T M row at_ k C) (hk:k<P.m):C[k*2]?=some (.string (qs (T.c k))):=by rw [(h k hk).1,pc_not (by omega)]
theorem PvL.atrow (h:PvL P T M row at_ k C) (hk:row<P.m):C[row*2]?=some (.string (qs (T.c row))):=by rw [(h row hk).1,pc_not (by omega)]
theorem PvL.step (hk:¬ k=row) (h:PvL P T M row at_ k C) (h1:D[k*2]?=some (.string (qs (T.c k+T.f k at_*T.byc row at_)))) (h2:∀ i,i≠k*2->D[i]?=C[i]?):PvL P T M row at_ (k+1) D:=fun i hi=>⟨by
 by_cases hik:i=k
 ·subst hik;rw [h1,pc_yes (by omega)]
 ·rw [h2 (i*2) (by omega),(h i hi).1];by_cases hc:i<k/\i≠row
  ·rw [pc_yes hc,pc_yes (by omega)]
  ·rw [pc_not hc,pc_not (by omega)],by rw [h2 (i*2+1) (by omega)];exact (h i hi).2⟩
theorem PvF.start {t:TypeId} (h:Fam w M.fb P.m P.n (fun i j => .string (qs (T.f i j))) t):Fam w M.fb P.m P.n (fun i j => .string (qs (pf T row at_ 0 i j))) t:=fun i hi =>
 let ⟨C,a,b⟩:=h i hi;⟨C,a,fun j hj=>by show C[j]?=some (.string (qs (pf T row at_ 0 i j)));rw [pf_not (by omega)];exact b j hj⟩
theorem PvF.skip {t:TypeId} (hk:k=row) (h:Fam w M.fb P.m P.n (fun i j => .string (qs (pf T row at_ k i j))) t):Fam w M.fb P.m P.n (fun i j => .string (qs (pf T row at_ (k+1) i j))) t:=fun i hi =>
 let ⟨C,a,b⟩:=h i hi;⟨C,a,fun j hj=>by
  have:C[j]?=some (.string (qs (pf T row at_ k i j))):=b j hj;show C[j]?=some (.string (qs (pf T row at_ (k+1) i j)));by_cases hc:i<k/\i≠row
  ·rw [pf_yes hc] at this;rw [pf_yes (by omega)];exact this
  ·rw [pf_not hc] at this;rw [pf_not (by omega)];exact this⟩
theorem PvF.rowk {t:TypeId} (h:Fam w M.fb P.m P.n (fun i j => .string (qs (pf T row at_ k i j))) t) (hk:k<P.m):∃ C,Blk w (M.fb k) C t/\∀ j,j<P.n->C[j]?=some (.string (qs (T.f k j))) :=
 let ⟨C,a,b⟩:=h k hk;⟨C,a,fun j hj=>by have:C[j]?=some (.string (qs (pf T row at_ k k j))):=b j hj;rwa [pf_not (by omega)] at this⟩
theorem PvF.step {t : TypeId} (hm : Mv X w (fun q => q = M.lb ∨ q = M.fb k) w') (inj : ∀ i i', i < P.m -> i' < P.m -> M.fb i = M.fb i' -> i = i') (hlt : k < P.m) (hk : ¬ k = row) (h : Fam w M.fb P.m P.n (fun i j => .string (qs (pf T row at_ k i j))) t) (hl : ∀ i, i < P.m -> M.fb i ≠ M.lb)
    (hB:Blk w' (M.fb k) D t) (hD:∀ j,j<P.n->D[j]?=some (.string (qs ((if j=at_ then 0 else T.f k j)+T.f k at_*T.byf row at_ j)))):Fam w' M.fb P.m P.n (fun i j => .string (qs (pf T row at_ (k+1) i j))) t:=fun i hi=>by
 by_cases hik:i=k
 ·subst hik;exact ⟨D,hB,fun j hj=>by show D[j]?=some (.string (qs (pf T row at_ (i+1) i j)));rw [pf_yes (by omega)];exact hD j hj⟩
 ·obtain ⟨C,a,b⟩:=h i hi;refine ⟨C,hm.blk a (fun e=>e.elim (hl i hi) (fun e=>hik (inj i k hi hlt e))),fun j hj=>?_⟩;have:C[j]?=some (.string (qs (pf T row at_ k i j))):=b j hj;show C[j]?=some (.string (qs (pf T row at_ (k+1) i j)));by_cases hc:i<k/\i≠row
  ·rw [pf_yes hc] at this;rw [pf_yes (by omega)];exact this
  ·rw [pf_not hc] at this;rw [pf_not (by omega)];exact this
theorem by_round {n:Nat} {f:Nat->Rat} {x:Rat} (h:∀ j,j<n->C[j]?=some (.string (qs (if j<k then f j else 0)))) (hk:k<n) (hx:x=f k) (j:Nat) (hj:j<n) :
    (C.setIfInBounds k (.string (qs x)))[j]?=some (.string (qs (if j<k+1 then f j else 0))):=by
 by_cases e:j=k
 ·subst e;rw [if_pos (by omega),← hx];exact set_at (h j hj)
 ·rw [set_ne (Ne.symm e) (h j hj)];by_cases h1:j<k
  ·rw [if_pos h1,if_pos (by omega)]
  ·rw [if_neg h1,if_neg (by omega)]
end
def TM.piv (M:TM) (row kz n:Nat):TM:={ M with fb:=fun i=>if i=row then kz else M.fb i,fc:=fun i=>if i=row then n else M.fc i }
section
variable {P:LP} {T:Tab} {M:TM} {row at_ k kz p:Nat} {w:World}
theorem piv_mem {CP CB CO CK CY CW:Array Value} (hp:CP[0]?=some (.int .i64 (P.n:Int))/\CP[1]?=some (.slice (some ⟨M.bb,0,none⟩) P.m M.bc)/\CP[2]?=some (.slice (some ⟨M.lb,0,none⟩) P.m M.lc)/\CP[3]?=some (.slice (some ⟨M.ob,0,none⟩) P.n M.oc) /\
    CP[4]?=some (.string (qs (T.wc+T.wf at_*T.byc row at_)))/\CP[5]?=some (.slice (some ⟨M.wb,0,none⟩) P.n M.wcap)) (bp:Blk w p CP 185)
    (bb:Blk w M.bb (CB.setIfInBounds row (.int .i64 (T.o at_:Int))) 3) (hb:∀ i,i<P.m->CB[i]?=some (.int .i64 (T.b i:Int))) (bo:Blk w M.ob (CO.setIfInBounds at_ (.int .i64 (T.b row:Int))) 3) (ho:∀ j,j<P.n->CO[j]?=some (.int .i64 (T.o j:Int)))
    (bl:Blk w M.lb ((CK.setIfInBounds (row*2) (.string (qs (T.byc row at_)))).setIfInBounds (row*2+1) (.slice (some ⟨kz,0,none⟩) P.n P.n)) 182) (hl:PvL P T M row at_ k CK) (hk:k=P.m) (hf:Fam w M.fb P.m P.n (fun i j => .string (qs (pf T row at_ k i j))) 34)
    (bz:Blk w kz CY 34) (hz:∀ j,j<P.n->CY[j]?=some (.string (qs (T.byf row at_ j)))) (bw:Blk w M.wb CW 34) (hw:∀ j,j<P.n->CW[j]?=some (.string (qs ((if j=at_ then 0 else T.wf j)+T.wf at_*T.byf row at_ j)))) (hr:row<P.m) (ha:at_<P.n)
    (inj:∀ i i',i<P.m->i'<P.m->M.fb i=M.fb i'->i=i') (fw:∀ i,i<P.m->M.fb i≠M.wb) (hbo:M.bb≠M.ob) (zn:∀ i,i<P.m->M.fb i≠kz) (zw:kz≠M.wb) (hcp:Caps P M) (hnm:P.n<=maxLen):TMem P (T.pivot row at_) p (M.piv row kz P.n) w where
 tab:=⟨CP,bp,by
  have hm0:0<P.m:=by omega
  have hn0:0<P.n:=by omega
  simp only [TCells,TM.piv,oa_pos hm0,oa_pos hn0];exact hp⟩
 caps:=⟨hcp.b,hcp.l,hcp.o,hcp.w,fun i hi=>by
  simp only [TM.piv];split
  ·exact ⟨Nat.le_refl _,hnm⟩
  ·exact hcp.f i hi⟩
 bas:=fun _=>⟨_,bb,fun i hi=>by
  by_cases e:i=row
  ·subst e;simp only [Tab.pivot,if_true];exact set_at (hb i hi)
  ·simp only [Tab.pivot,if_neg e];exact set_ne (Ne.symm e) (hb i hi)⟩
 lin:=fun _=>⟨_,bl,fun i hi=>by
  have hn0:0<P.n:=by omega
  simp only [oa_pos hn0];by_cases e:i=row
  ·subst e;simp only [Tab.pivot,TM.piv,if_true];exact ⟨set_ne (by omega) (set_at (hl i hi).1),set_at (set_ne (by omega) (hl i hi).2)⟩
  ·simp only [Tab.pivot,TM.piv,if_neg e];refine ⟨set_ne (by omega) (set_ne (by omega) ?_),set_ne (by omega) (set_ne (by omega) (hl i hi).2)⟩;have:=(hl i hi).1;rwa [pc_yes (by omega)] at this⟩
 oth:=fun _=>⟨_,bo,fun j hj=>by
  by_cases e:j=at_
  ·subst e;simp only [Tab.pivot,if_true];exact set_at (ho j hj)
  ·simp only [Tab.pivot,if_neg e];exact set_ne (Ne.symm e) (ho j hj)⟩
 wor:=fun _=>⟨CW,bw,hw⟩
 fac:=fun _ i hi=>by
  by_cases e:i=row
  ·subst e;simp only [Tab.pivot,TM.piv,if_true];exact ⟨CY,bz,hz⟩
  ·simp only [Tab.pivot,TM.piv,if_neg e];obtain ⟨C,a,b⟩:=hf i hi;exact ⟨C,a,fun j hj=>by have:C[j]?=some (.string (qs (pf T row at_ k i j))):=b j hj;rwa [pf_yes (by omega)] at this⟩
 inj:=fun _ i i' hi hi' e=>by
  simp only [TM.piv] at e;split at e <;> split at e
  ·omega
  ·exact absurd e.symm (zn i' hi')
  ·exact absurd e (zn i hi)
  ·exact inj i i' hi hi' e
 fw:=fun _ i hi=>by
  simp only [TM.piv];split
  ·exact zw
  ·exact fw i hi
 bo:=fun _ _=>hbo
end
theorem pivot_c (P:LP) (T:Tab) (p:Nat) (M:TM) (row at_ q:Nat) (X w:World) (g:Gd X) (hX:Ext X w) (xl:∀ k,M.S p P.m k->X.heap.size<=k) (hT:TMem P T p M w) (hr:row<P.m) (ha:at_<P.n) (hk0:T.f row at_≠0) (hn:P.n<=1000) (hm:P.m<=1000) (hq1:1<=q) (hq2:q<=400) (qc:∀ i,i<P.m->QB q (T.c i)) (qf:∀ i,i<P.m->∀ j,j<P.n->QB q (T.f i j)) (qwc:QB q T.wc) (qw:∀ j,j<P.n->QB q (T.wf j)):Calls Tryz.prog 200 #[.pointer (some ⟨p,0,none⟩),.int .i64 (row:Int),.int .i64 (at_:Int)] w (fun e w'=>e = .returned (.tuple #[])/\Mv X w (M.S p P.m) w'/\∃ kz,w.heap.size<=kz/\TMem P (T.pivot row at_) p (M.piv row kz P.n) w'):=by
 have HG:=Hi26 g;have HK:=Hi26 hk0;have HR:=Hi26 hr;have HA:=Hi26 ha;have HQc:=Hi26 qc;have HQf:=Hi26 qf;have HQwc:=Hi26 qwc;have HQw:=Hi26 qw;clear g hk0 hr ha qc qf qwc qw;have hm0:0<P.m:=by have:=HR.out;omega
 have hn0:0<P.n:=by have:=HA.out;omega
 obtain ⟨CP,b1,c1⟩:=hT.tab;obtain ⟨CB,b2,c2⟩:=hT.bas hm0;obtain ⟨CL,b3,c3⟩:=hT.lin hm0;obtain ⟨CO,b4,c4⟩:=hT.oth hn0;obtain ⟨CW,b5,c5⟩:=hT.wor hn0;have hfac:=hT.fac hn0;simp only [TCells,oa_pos hm0,oa_pos hn0] at c1;simp only [LCells,oa_pos hn0] at c3;have HCAP:=Hi26 hT.caps;have HBp:=Hi26 b1;have HP0:Hid (_/\_/\_/\_/\_/\_):=Hi26 c1;have HBb:=Hi26 b2;have HCB:=Hi26 c2;have HBl:=Hi26 b3;have HCL:=Hi26 c3;have HBo:=Hi26 b4;have HCO:=Hi26 c4;have HBw:=Hi26 b5;have HCW:=Hi26 c5;have HBF:=Hi26 hfac;have HINJ:=Hi26 (hT.inj hn0);have HFW:=Hi26 (hT.fw hn0);have HN7:=Hi26 (hT.bo hm0 hn0);have HN1:=Hi26 (b1.ne b2 (by decide));have HN2:=Hi26 (b1.ne b3 (by decide));have HN3:=Hi26 (b1.ne b4 (by decide));have HN4:=Hi26 (b1.ne b5 (by decide));have HN6:=Hi26 (b2.ne b3 (by decide));have HN8:=Hi26 (b2.ne b5 (by decide));have HN10:=Hi26 (b3.ne b4 (by decide));have HN11:=Hi26 (b3.ne b5 (by decide));have HN13:=Hi26 (b4.ne b5 (by decide));have HFP:Hid (∀ i,i<P.m->M.fb i≠p):=Hi26 (fun i hi=>let ⟨_,b,_⟩:=hfac i hi;b.ne b1 (by decide));have HFBB:Hid (∀ i,i<P.m->M.fb i≠M.bb):=Hi26 (fun i hi=>let ⟨_,b,_⟩:=hfac i hi;b.ne b2 (by decide));have HFL:Hid (∀ i,i<P.m->M.fb i≠M.lb):=Hi26 (fun i hi=>let ⟨_,b,_⟩:=hfac i hi;b.ne b3 (by decide));have HFO:Hid (∀ i,i<P.m->M.fb i≠M.ob):=Hi26 (fun i hi=>let ⟨_,b,_⟩:=hfac i hi;b.ne b4 (by decide));have HFLT:Hid (∀ i,i<P.m->M.fb i<w.heap.size):=Hi26 (fun i hi=>let ⟨_,b,_⟩:=hfac i hi;b.lt);have HX0:Hid (Mv X w (M.S p P.m) w):=Hi26 (Mv.refl hX xl);have HLO:Hid (X.heap.size<=p/\X.heap.size<=M.bb/\X.heap.size<=M.lb/\X.heap.size<=M.ob/\X.heap.size<=M.wb/\∀ i,i<P.m->X.heap.size<=M.fb i):=Hi26 ⟨xl _ (Or.inl rfl),xl _ (Or.inr (Or.inl rfl)),xl _ (Or.inr (Or.inr (Or.inl rfl))),xl _ (Or.inr (Or.inr (Or.inr (Or.inl rfl)))),xl _ (Or.inr (Or.inr (Or.inr (Or.inr (Or.inl rfl))))),fun i hi=>xl _ (Or.inr (Or.inr (Or.inr (Or.inr (Or.inr ⟨i,hi,rfl⟩)))))⟩;have HQb:Hid (QB (q+q) (T.byc row at_)):=Hi26 ((HQc.out row HR.out).neg.div (HQf.out row HR.out at_ HA.out) hq1);have HQbf:Hid (∀ j,j<P.n->QB (q+q) (T.byf row at_ j)):=Hi26 (fun j hj=>QB.div (by split;exact (QB1.neg.mono hq1).neg;exact (HQf.out row HR.out j hj).neg) (HQf.out row HR.out at_ HA.out) hq1);have hr2:(row:Int)<(P.m:Int):=by have:=HR.out;omega
 have ha2:(at_:Int)<(P.n:Int):=by have:=HA.out;omega
 clear hfac hm0 hn0 hX xl hT b1 b2 b3 b4 b5 c1 c2 c3 c4 c5;go_enter Tryz.func200,Tryz.ntmps200;have cp_2:=HBp.out.cell (2) HP0.out.2.2.1;have cl_row___2:=HBl.out.cell (row*2) ((HCL.out row HR.out).1);have cl_row___2___1:=HBl.out.cell (row*2+1) ((HCL.out row HR.out).2);go_upto_region 1 with fail
 refine wp_name (fun W=>Mv X w (M.S p P.m) W/\Blk W (p) (CP) 185/\Blk W (M.bb) (CB) 3/\Blk W (M.lb) (CL) 182/\Blk W (M.ob) (CO) 3/\Blk W (M.wb) (CW) 34/\Fam W M.fb P.m P.n (fun i j => .string (qs (T.f i j))) 34/\Blk W (w.heap.size) (#[.string (qs (T.c row)),.slice (some ⟨M.fb row,0,none⟩) P.n (M.fc row)]) 182) ⟨(HX0.out.alloc _),(HBp.out.alloc _),(HBb.out.alloc _),(HBl.out.alloc _),(HBo.out.alloc _),(HBw.out.alloc _),(HBF.out.alloc _),(Blk.nw (#[.string (qs (T.c row)),.slice (some ⟨M.fb row,0,none⟩) P.n (M.fc row)]) 182)⟩ ?_;rintro w1 ⟨e1,bBp_1,bBb_1,bBl_1,bBo_1,bBw_1,bBF_1,bB0_1⟩;have HX1:=Hi26 e1;have HBp_1:=Hi26 bBp_1;have HBb_1:=Hi26 bBb_1;have HBl_1:=Hi26 bBl_1;have HBo_1:=Hi26 bBo_1;have HBw_1:=Hi26 bBw_1;have HBF_1:=Hi26 bBF_1;have HB0_1:=Hi26 bB0_1;have HGEB0:Hid (w.heap.size<=w.heap.size):=Hi26 (Nat.le_refl _);clear e1 bBp_1 bBb_1 bBl_1 bBo_1 bBw_1 bBF_1 bB0_1 cp_2 cl_row___2 cl_row___2___1;have c0_1:=HB0_1.out.cell 1 rfl;have cF_row_at_:=HBF_1.out.cell (HR.out) (HA.out);have cp_3:=HBp_1.out.cell (3) HP0.out.2.2.2.1;go_wp2_with fail;refine (zeros_c P.n (by omega) _).mono ?_;rintro e w2 ⟨kz,CZ,rfl,e2,g_,b_,c_⟩;have HNBpBz:Hid (p≠kz):=Hi26 (Nat.ne_of_lt (Nat.lt_of_lt_of_le HBp_1.out.lt g_));have HNBbBz:Hid (M.bb≠kz):=Hi26 (Nat.ne_of_lt (Nat.lt_of_lt_of_le HBb_1.out.lt g_));have HNBlBz:Hid (M.lb≠kz):=Hi26 (Nat.ne_of_lt (Nat.lt_of_lt_of_le HBl_1.out.lt g_));have HNBoBz:Hid (M.ob≠kz):=Hi26 (Nat.ne_of_lt (Nat.lt_of_lt_of_le HBo_1.out.lt g_));have HNBwBz:Hid (M.wb≠kz):=Hi26 (Nat.ne_of_lt (Nat.lt_of_lt_of_le HBw_1.out.lt g_));have HNB0Bz:Hid (w.heap.size≠kz):=Hi26 (Nat.ne_of_lt (Nat.lt_of_lt_of_le HB0_1.out.lt g_));have HGEBz:Hid (w.heap.size<=kz):=Hi26 (Nat.le_trans HX1.out.size g_);have HX2:=Hi26 (HX1.out.trans e2);have HBp_2:=Hi26 (HBp_1.out.ext e2);have HBb_2:=Hi26 (HBb_1.out.ext e2);have HBl_2:=Hi26 (HBl_1.out.ext e2);have HBo_2:=Hi26 (HBo_1.out.ext e2);have HBw_2:=Hi26 (HBw_1.out.ext e2);have HBF_2:=Hi26 (HBF_1.out.ext e2);have HB0_2:=Hi26 (HB0_1.out.ext e2);clear e2 c0_1 cF_row_at_ cp_3;have HBz_2:=Hi26 b_;have HCBz:=Hi26 c_;clear g_ b_ c_;go_upto_region 3 with fail
 refine wp_name (fun W=>Mv X w (M.S p P.m) W/\Blk W (p) (CP) 185/\Blk W (M.bb) (CB) 3/\Blk W (M.lb) (CL) 182/\Blk W (M.ob) (CO) 3/\Blk W (M.wb) (CW) 34/\Fam W M.fb P.m P.n (fun i j => .string (qs (T.f i j))) 34/\Blk W (w.heap.size) (#[.string (qs (T.c row)),.slice (some ⟨M.fb row,0,none⟩) P.n (M.fc row)]) 182/\Blk W (kz) (CZ) 34/\Blk W (w2.heap.size) (#[.string ⟨#[]⟩,.slice (some ⟨kz,0,none⟩) P.n P.n]) 182) ⟨(HX2.out.alloc _),(HBp_2.out.alloc _),(HBb_2.out.alloc _),(HBl_2.out.alloc _),(HBo_2.out.alloc _),(HBw_2.out.alloc _),(HBF_2.out.alloc _),(HB0_2.out.alloc _),(HBz_2.out.alloc _),(Blk.nw (#[.string ⟨#[]⟩,.slice (some ⟨kz,0,none⟩) P.n P.n]) 182)⟩ ?_;rintro w3 ⟨e3,bBp_3,bBb_3,bBl_3,bBo_3,bBw_3,bBF_3,bB0_3,bBz_3,bB1_3⟩;have HX3:=Hi26 e3;have HBp_3:=Hi26 bBp_3;have HBb_3:=Hi26 bBb_3;have HBl_3:=Hi26 bBl_3;have HBo_3:=Hi26 bBo_3;have HBw_3:=Hi26 bBw_3;have HBF_3:=Hi26 bBF_3;have HB0_3:=Hi26 bB0_3;have HBz_3:=Hi26 bBz_3;have HB1_3:=Hi26 bB1_3;have HGEB1:Hid (w.heap.size<=w2.heap.size):=Hi26 (HX2.out.size);clear e3 bBp_3 bBb_3 bBl_3 bBo_3 bBw_3 bBF_3 bB0_3 bBz_3 bB1_3;have c0_0:=HB0_3.out.cell 0 rfl;go_wp2_with fail;refine (rneg_c (T.c row) _ (HQc.out row HR.out) (by omega)).mono ?_;rintro e w4 ⟨rfl,e4⟩;have HX4:=Hi26 (HX3.out.trans e4);have HBp_4:=Hi26 (HBp_3.out.ext e4);have HBb_4:=Hi26 (HBb_3.out.ext e4);have HBl_4:=Hi26 (HBl_3.out.ext e4);have HBo_4:=Hi26 (HBo_3.out.ext e4);have HBw_4:=Hi26 (HBw_3.out.ext e4);have HBF_4:=Hi26 (HBF_3.out.ext e4);have HB0_4:=Hi26 (HB0_3.out.ext e4);have HBz_4:=Hi26 (HBz_3.out.ext e4);have HB1_4:=Hi26 (HB1_3.out.ext e4);clear e4 c0_0;go_wp2_with fail;refine (rdiv_c (-T.c row) (T.f row at_) _ (HG.out.ext (HX4.out.ext)) (HQc.out row HR.out).neg (HQf.out row HR.out at_ HA.out) (by omega) (by omega) (by omega) HK.out).mono ?_;rintro e w5 ⟨rfl,e5⟩;have HX5:=Hi26 (HX4.out.trans e5);have HBp_5:=Hi26 (HBp_4.out.ext e5);have HBb_5:=Hi26 (HBb_4.out.ext e5);have HBl_5:=Hi26 (HBl_4.out.ext e5);have HBo_5:=Hi26 (HBo_4.out.ext e5);have HBw_5:=Hi26 (HBw_4.out.ext e5);have HBF_5:=Hi26 (HBF_4.out.ext e5);have HB0_5:=Hi26 (HB0_4.out.ext e5);have HBz_5:=Hi26 (HBz_4.out.ext e5);have HB1_5:=Hi26 (HB1_4.out.ext e5);clear e5;have c1_0:=HB1_5.out.cell 0 rfl;have f1_0:=HB1_5.out.free 0;go_upto_region 4 with fail
 refine wp_name (fun W=>Mv X w (M.S p P.m) W/\Blk W (p) (CP) 185/\Blk W (M.bb) (CB) 3/\Blk W (M.lb) (CL) 182/\Blk W (M.ob) (CO) 3/\Blk W (M.wb) (CW) 34/\Fam W M.fb P.m P.n (fun i j => .string (qs (T.f i j))) 34/\Blk W (w.heap.size) (#[.string (qs (T.c row)),.slice (some ⟨M.fb row,0,none⟩) P.n (M.fc row)]) 182/\Blk W (kz) (CZ) 34/\Blk W (w2.heap.size) (#[.string (qs (-T.c row / T.f row at_)),.slice (some ⟨kz,0,none⟩) P.n P.n]) 182) ⟨(HX5.out.setCell (Or.inr (HGEB1.out)) _),(HBp_5.out.other (a:=⟨w2.heap.size,0,none⟩) _ (by have:=HBp_2.out.lt;first|omega|(simp only [];omega)|(simp;omega))),(HBb_5.out.other (a:=⟨w2.heap.size,0,none⟩) _ (by have:=HBb_2.out.lt;first|omega|(simp only [];omega)|(simp;omega))),(HBl_5.out.other (a:=⟨w2.heap.size,0,none⟩) _ (by have:=HBl_2.out.lt;first|omega|(simp only [];omega)|(simp;omega))),(HBo_5.out.other (a:=⟨w2.heap.size,0,none⟩) _ (by have:=HBo_2.out.lt;first|omega|(simp only [];omega)|(simp;omega))),(HBw_5.out.other (a:=⟨w2.heap.size,0,none⟩) _ (by have:=HBw_2.out.lt;first|omega|(simp only [];omega)|(simp;omega))),(HBF_5.out.other (a:=⟨w2.heap.size,0,none⟩) _ ((fam_ne HFLT.out (show w.heap.size<=w2.heap.size from HGEB1.out)))),(HB0_5.out.other (a:=⟨w2.heap.size,0,none⟩) _ (Nat.ne_of_lt HB0_2.out.lt)),(HBz_5.out.other (a:=⟨w2.heap.size,0,none⟩) _ (by have:=HBz_2.out.lt;first|omega|(simp only [];omega)|(simp;omega))),(HB1_5.out.set 0 (.string (qs (-T.c row / T.f row at_))))⟩ ?_;rintro w6 ⟨e6,bBp_6,bBb_6,bBl_6,bBo_6,bBw_6,bBF_6,bB0_6,bBz_6,bB1_6⟩;have HX6:=Hi26 e6;have HBp_6:=Hi26 bBp_6;have HBb_6:=Hi26 bBb_6;have HBl_6:=Hi26 bBl_6;have HBo_6:=Hi26 bBo_6;have HBw_6:=Hi26 bBw_6;have HBF_6:=Hi26 bBF_6;have HB0_6:=Hi26 bB0_6;have HBz_6:=Hi26 bBz_6;have HB1_6:=Hi26 bB1_6;clear e6 bBp_6 bBb_6 bBl_6 bBo_6 bBw_6 bBF_6 bB0_6 bBz_6 bB1_6 c1_0 f1_0;have c0_1:=HB0_6.out.cell 1 rfl;go_wp2_with fail;clear c0_1;go_wp2_with fail;go_loopw [43] (fun x0_ wx=>∃ k:Nat,x0_ = .int .i64 k/\k<=P.n/\Hid (Mv X w6 (fun q=>q=kz) wx/\∃ CK,Blk wx kz CK 34/\∀ j,j<P.n->CK[j]?=some (.string (qs (if j<k then T.byf row at_ j else 0))))) (fun x0_ _=>P.n-(intOf x0_).toNat)
 case atStart=>exact ⟨0,rfl,Nat.zero_le _,Hi26 ⟨Mv.refl HX6.out.ext (fun q h=>by rw [h];exact Nat.le_trans HX6.out.base HGEBz.out),_,HBz_6.out,fun j hj=>by rw [if_neg (Nat.not_lt_zero _),qs_zero];exact HCBz.out j hj⟩⟩
 case round =>
  rename World=>w7
  obtain ⟨k,rfl,hk,HH⟩:=hrel;have HM7:=Hi26 HH.out.1;obtain ⟨CK,a1_,a2_⟩:=HH.out.2;have HBz_7:=Hi26 a1_;have HCK:=Hi26 a2_;clear a1_ a2_ HH;have HBp_7:=Hi26 (HM7.out.blk HBp_6.out (fun h=>((show p≠kz from HNBpBz.out)) h));have HBb_7:=Hi26 (HM7.out.blk HBb_6.out (fun h=>((show M.bb≠kz from HNBbBz.out)) h));have HBl_7:=Hi26 (HM7.out.blk HBl_6.out (fun h=>((show M.lb≠kz from HNBlBz.out)) h));have HBo_7:=Hi26 (HM7.out.blk HBo_6.out (fun h=>((show M.ob≠kz from HNBoBz.out)) h));have HBw_7:=Hi26 (HM7.out.blk HBw_6.out (fun h=>((show M.wb≠kz from HNBwBz.out)) h));have HBF_7:=Hi26 (HBF_6.out.mv HM7.out (fun i hi h=>(((fam_ne HFLT.out (show w.heap.size<=kz from HGEBz.out))) i hi) h));have HB0_7:=Hi26 (HM7.out.blk HB0_6.out (fun h=>((show w.heap.size≠kz from HNB0Bz.out)) h));have HB1_7:=Hi26 (HM7.out.blk HB1_6.out (fun h=>((show w2.heap.size≠kz from by have:=HBz_2.out.lt;first|omega|(simp only [];omega)|(simp;omega))) h));have HX7:Hid (Mv X w (M.S p P.m) w7):=Hi26 (HX6.out.comp HM7.out (fun q h=>by rw [h];exact (Or.inr HGEBz.out)));by_cases hlt:k<P.n
  ·have hlt2:(k:Int)<(P.n:Int):=by omega
   have zk_:=HCK.out k hlt;rw [if_neg (by omega)] at zk_;have HZk:=Hi26 zk_;clear zk_;by_cases hj:k=at_
   ·have hj2:((k:Int) == (at_:Int))=true:=by simp;omega
    have HJ:=Hi26 hj;clear hj;have cF_row_k:=HBF_7.out.cell (HR.out) (hlt);go_wp2_with fail;clear cF_row_k;refine region_e [.val (.pointer (some ⟨w2.heap.size,1,none⟩)),.val (.slice (some ⟨kz,0,none⟩) P.n P.n),.val (.int .i64 (k:Int)),.val (.string ⟨#[45,49]⟩),.val (.string (qs (1:Rat))),.val (.string (qs (T.f row at_))),.val (.tuple #[.string (qs ((1:Rat) / T.f row at_)),.int .i64 0]),.val (.tuple #[.string (qs ((1:Rat) / T.f row at_)),.int .i64 0]),.val (.string (qs ((1:Rat) / T.f row at_))),.val (.int .i64 0),.val (.pointer (some ⟨kz,k,none⟩)),.eff] (fun L g W=>(if L 11=true then Blk W (kz) ((CK).setIfInBounds k (.string (qs ((1:Rat) / T.f row at_)))) 34 else Blk W (kz) (CK) 34)) (S:=fun k=>k=kz) (by kernel_rfl) (by kernel_rfl) (by kernel_rfl) (Mv.refl HX7.out.ext (fun k h=>(fun e=>Nat.le_trans (HX7.out.le (Or.inr HGEBz.out)) (Nat.le_of_eq e.symm)) h)) ?_ ?_ ?_ ?_ (fun gv_ w8 hm_ he_=>?_)
    ·exact fun gz_=>(by rw [if_neg (by decide)];exact HBz_7.out.drew)
    ·exact fun L g W W1 h e=>ite_ext (h) (fun h=>h.ext e) (fun h=>h.ext e)
    ·intro i v L g W hi h;have n11_:i≠11:=fun e=>by subst e;exact absurd (show false=true from hi) (by decide)
     simp only [up_ne n11_,ug_ne n11_];exact h
    ·skip
     refine RI 8 (.pointer (some ⟨w2.heap.size,0,none⟩))<|J2 (fun hs_=>hs_.val 0) (fun hs_=>(hs_.mv.blk HB1_7.out (fun h=>((show w2.heap.size≠kz from by have:=HBz_2.out.lt;first|omega|(simp only [];omega)|(simp;omega))) h)).cell 1 rfl)<|RI 9 (.int .i64 (k:Int))<|RI 10 (.string ⟨#[45,49]⟩) ?_;refine RV (fun A_ hs_ K_ hK_=>?_) ?_;· have q55_:=hs_.val 3;go_simp;refine (rneg_m1 _).mono ?_;rintro e W9_ ⟨rfl,e9_⟩;exact hK_.out _ e9_
     refine RI 7 (.string (qs (T.f row at_))) ?_;refine RV (fun A_ hs_ K_ hK_=>?_) ?_;· have q56_:=hs_.val 4;have q57_:=hs_.val 5;go_simp;refine (rdiv_c (1:Rat) (T.f row at_) _ (HG.out.ext hs_.mv.ext) QB1 (HQf.out row HR.out at_ HA.out) (by omega) (by omega) (by omega) HK.out).mono ?_;rintro e W9_ ⟨rfl,e9_⟩;exact hK_.out _ e9_
     refine R1 6<|R1 7<|R1 7<|R2 1 2 ?_;refine RnEL.cons (fun L_ g_ A_ W_ hs_=>?_) ?_
     ·have q61_:=hs_.val 10;have q59_:=hs_.val 8;refine RnE.eff fun K_ hK_=>?_;have n_:=hs_.not;have e_:=hs_.e;rw [if_neg (by rw [n_];decide)] at e_;have c_0:=e_.cell (k) HZk.out;have f_0:=e_.free k;have HE_:=Hi26 e_;have HM_:=Hi26 hs_.mv;have HEE_:=Hi26 hs_.e;clear e_ n_;go_simp;exact hK_.out undef _ (HM_.out.setCell (Or.inl (rfl)) _) (by rw [up_at,if_pos rfl];exact (HE_.out.set k _))
     exact RnEL.nil
    simp only [fse,Ke.value,puts,Act.put,List.setIfInBounds_toArray,List.set_cons_zero,List.set_cons_succ];have HX8:=Hi26 (HX7.out.comp hm_ (fun k h=>(fun e=>(by rw [e];exact (Or.inr HGEBz.out))) h));have HBp_8:=Hi26 (hm_.blk HBp_7.out (fun h=>((show p≠kz from HNBpBz.out)) h));have HBb_8:=Hi26 (hm_.blk HBb_7.out (fun h=>((show M.bb≠kz from HNBbBz.out)) h));have HBl_8:=Hi26 (hm_.blk HBl_7.out (fun h=>((show M.lb≠kz from HNBlBz.out)) h));have HBo_8:=Hi26 (hm_.blk HBo_7.out (fun h=>((show M.ob≠kz from HNBoBz.out)) h));have HBw_8:=Hi26 (hm_.blk HBw_7.out (fun h=>((show M.wb≠kz from HNBwBz.out)) h));have HBF_8:=Hi26 (HBF_7.out.mv hm_ (fun i hi h=>(((fam_ne HFLT.out (show w.heap.size<=kz from HGEBz.out))) i hi) h));have HB0_8:=Hi26 (hm_.blk HB0_7.out (fun h=>((show w.heap.size≠kz from HNB0Bz.out)) h));have HBz_8:Hid (Blk w8 (kz) ((CK).setIfInBounds k (.string (qs ((1:Rat) / T.f row at_)))) 34):=Hi26 (by have h_:=he_;rw [if_pos rfl] at h_;exact h_);have HB1_8:=Hi26 (hm_.blk HB1_7.out (fun h=>((show w2.heap.size≠kz from by have:=HBz_2.out.lt;first|omega|(simp only [];omega)|(simp;omega))) h));have HMR:=Hi26 hm_;clear hm_ he_;go_wp2_with fail;go_roundw
    case rel=>exact ⟨k+1,by go_num,by omega,Hi26 ⟨HM7.out.comp HMR.out (fun q h=>Or.inl h),_,HBz_8.out,by_round HCK.out hlt (by rw [Tab.byf,if_pos HJ.out];grind)⟩⟩
    case measure=>simp [intOf];omega
   ·have hj2:((k:Int) == (at_:Int))=false:=by simp;omega
    have HJ:=Hi26 hj;clear hj;have cF_row_k:=HBF_7.out.cell (HR.out) (hlt);go_wp2_with fail;clear cF_row_k;refine region_e [.val (.pointer (some ⟨w2.heap.size,1,none⟩)),.val (.slice (some ⟨kz,0,none⟩) P.n P.n),.val (.int .i64 (k:Int)),.val (.string (qs (T.f row k))),.val (.string (qs (-T.f row k))),.val (.string (qs (T.f row at_))),.val (.tuple #[.string (qs (-T.f row k / T.f row at_)),.int .i64 0]),.val (.tuple #[.string (qs (-T.f row k / T.f row at_)),.int .i64 0]),.val (.string (qs (-T.f row k / T.f row at_))),.val (.int .i64 0),.val (.pointer (some ⟨kz,k,none⟩)),.eff] (fun L g W=>(if L 11=true then Blk W (kz) ((CK).setIfInBounds k (.string (qs (-T.f row k / T.f row at_)))) 34 else Blk W (kz) (CK) 34)) (S:=fun k=>k=kz) (by kernel_rfl) (by kernel_rfl) (by kernel_rfl) (Mv.refl HX7.out.ext (fun k h=>(fun e=>Nat.le_trans (HX7.out.le (Or.inr HGEBz.out)) (Nat.le_of_eq e.symm)) h)) ?_ ?_ ?_ ?_ (fun gv_ w8 hm_ he_=>?_)
    ·exact fun gz_=>(by rw [if_neg (by decide)];exact HBz_7.out.drew)
    ·exact fun L g W W1 h e=>ite_ext (h) (fun h=>h.ext e) (fun h=>h.ext e)
    ·intro i v L g W hi h;have n11_:i≠11:=fun e=>by subst e;exact absurd (show false=true from hi) (by decide)
     simp only [up_ne n11_,ug_ne n11_];exact h
    ·skip
     refine RI 8 (.pointer (some ⟨w2.heap.size,0,none⟩))<|J2 (fun hs_=>hs_.val 0) (fun hs_=>(hs_.mv.blk HB1_7.out (fun h=>((show w2.heap.size≠kz from by have:=HBz_2.out.lt;first|omega|(simp only [];omega)|(simp;omega))) h)).cell 1 rfl)<|RI 9 (.int .i64 (k:Int))<|RI 10 (.string (qs (T.f row k))) ?_;refine RV (fun A_ hs_ K_ hK_=>?_) ?_;· have q55_:=hs_.val 3;go_simp;refine (rneg_c (T.f row k) _ (HQf.out row HR.out k hlt) (by omega)).mono ?_;rintro e W9_ ⟨rfl,e9_⟩;exact hK_.out _ e9_
     refine RI 7 (.string (qs (T.f row at_))) ?_;refine RV (fun A_ hs_ K_ hK_=>?_) ?_;· have q56_:=hs_.val 4;have q57_:=hs_.val 5;go_simp;refine (rdiv_c (-T.f row k) (T.f row at_) _ (HG.out.ext hs_.mv.ext) (HQf.out row HR.out k hlt).neg (HQf.out row HR.out at_ HA.out) (by omega) (by omega) (by omega) HK.out).mono ?_;rintro e W9_ ⟨rfl,e9_⟩;exact hK_.out _ e9_
     refine R1 6<|R1 7<|R1 7<|R2 1 2 ?_;refine RnEL.cons (fun L_ g_ A_ W_ hs_=>?_) ?_
     ·have q61_:=hs_.val 10;have q59_:=hs_.val 8;refine RnE.eff fun K_ hK_=>?_;have n_:=hs_.not;have e_:=hs_.e;rw [if_neg (by rw [n_];decide)] at e_;have c_0:=e_.cell (k) HZk.out;have f_0:=e_.free k;have HE_:=Hi26 e_;have HM_:=Hi26 hs_.mv;have HEE_:=Hi26 hs_.e;clear e_ n_;go_simp;exact hK_.out undef _ (HM_.out.setCell (Or.inl (rfl)) _) (by rw [up_at,if_pos rfl];exact (HE_.out.set k _))
     exact RnEL.nil
    simp only [fse,Ke.value,puts,Act.put,List.setIfInBounds_toArray,List.set_cons_zero,List.set_cons_succ];have HX8:=Hi26 (HX7.out.comp hm_ (fun k h=>(fun e=>(by rw [e];exact (Or.inr HGEBz.out))) h));have HBp_8:=Hi26 (hm_.blk HBp_7.out (fun h=>((show p≠kz from HNBpBz.out)) h));have HBb_8:=Hi26 (hm_.blk HBb_7.out (fun h=>((show M.bb≠kz from HNBbBz.out)) h));have HBl_8:=Hi26 (hm_.blk HBl_7.out (fun h=>((show M.lb≠kz from HNBlBz.out)) h));have HBo_8:=Hi26 (hm_.blk HBo_7.out (fun h=>((show M.ob≠kz from HNBoBz.out)) h));have HBw_8:=Hi26 (hm_.blk HBw_7.out (fun h=>((show M.wb≠kz from HNBwBz.out)) h));have HBF_8:=Hi26 (HBF_7.out.mv hm_ (fun i hi h=>(((fam_ne HFLT.out (show w.heap.size<=kz from HGEBz.out))) i hi) h));have HB0_8:=Hi26 (hm_.blk HB0_7.out (fun h=>((show w.heap.size≠kz from HNB0Bz.out)) h));have HBz_8:Hid (Blk w8 (kz) ((CK).setIfInBounds k (.string (qs (-T.f row k / T.f row at_)))) 34):=Hi26 (by have h_:=he_;rw [if_pos rfl] at h_;exact h_);have HB1_8:=Hi26 (hm_.blk HB1_7.out (fun h=>((show w2.heap.size≠kz from by have:=HBz_2.out.lt;first|omega|(simp only [];omega)|(simp;omega))) h));have HMR:=Hi26 hm_;clear hm_ he_;go_wp2_with fail;go_roundw
    case rel=>exact ⟨k+1,by go_num,by omega,Hi26 ⟨HM7.out.comp HMR.out (fun q h=>Or.inl h),_,HBz_8.out,by_round HCK.out hlt (by rw [Tab.byf,if_neg HJ.out])⟩⟩
    case measure=>simp [intOf];omega
  ·have hk2:k=P.n:=by omega
   have hge:¬ (k:Int)<(P.n:Int):=by omega
   have HCY:Hid (∀ j,j<P.n->CK[j]?=some (.string (qs (T.byf row at_ j)))):=Hi26 (fun j hj=>by have:=HCK.out j hj;rwa [if_pos (by omega)] at this);clear HCK;have cp_2:=HBp_7.out.cell (2) HP0.out.2.2.1;go_wp2_with fail;clear cp_2;go_wp2_with fail;go_loopw [68] (fun x0_ wx=>∃ k2:Nat,x0_ = .int .i64 k2/\k2<=P.m/\Hid (Mv X w7 (fun q=>q=M.lb∨∃ i,i<P.m/\q=M.fb i) wx/\(∃ CK2,Blk wx M.lb CK2 182/\PvL P T M row at_ k2 CK2)/\Fam wx M.fb P.m P.n (fun i j => .string (qs (pf T row at_ k2 i j))) 34)) (fun x0_ _=>P.m-(intOf x0_).toNat)
   case atStart=>exact ⟨0,rfl,Nat.zero_le _,Hi26 ⟨Mv.refl HX7.out.ext (fun q h=>HX7.out.low q ((fun q h=>h.elim (fun e=>Or.inr (Or.inr (Or.inl e))) (fun e=>Or.inr (Or.inr (Or.inr (Or.inr (Or.inr e)))))) q h)),⟨_,HBl_7.out,PvL.start HCL.out⟩,PvF.start HBF_7.out⟩⟩
   case round =>
    rename World=>w8
    obtain ⟨k2,rfl,hkm,HH⟩:=hrel;have HM8:=Hi26 HH.out.1;obtain ⟨CK2,a1_,a2_⟩:=HH.out.2.1;have HBl_8:=Hi26 a1_;have HCK:=Hi26 a2_;have HFK:=Hi26 HH.out.2.2;clear a1_ a2_ HH;have HBp_8:=Hi26 (HM8.out.blk HBp_7.out (fun h=>h.elim ((show p≠M.lb from HN2.out)) (fun h2=>(fun ⟨i,hi,e⟩=>HFP.out i hi (e.symm)) h2)));have HBb_8:=Hi26 (HM8.out.blk HBb_7.out (fun h=>h.elim ((show M.bb≠M.lb from HN6.out)) (fun h2=>(fun ⟨i,hi,e⟩=>HFBB.out i hi (e.symm)) h2)));have HBo_8:=Hi26 (HM8.out.blk HBo_7.out (fun h=>h.elim ((show M.ob≠M.lb from fun h=>HN10.out h.symm)) (fun h2=>(fun ⟨i,hi,e⟩=>HFO.out i hi (e.symm)) h2)));have HBw_8:=Hi26 (HM8.out.blk HBw_7.out (fun h=>h.elim ((show M.wb≠M.lb from fun h=>HN11.out h.symm)) (fun h2=>(fun ⟨i,hi,e⟩=>HFW.out i hi (e.symm)) h2)));have HB0_8:=Hi26 (HM8.out.blk HB0_7.out (fun h=>h.elim ((show w.heap.size≠M.lb from by have:=HBl.out.lt;first|omega|(simp only [];omega)|(simp;omega))) (fun h2=>(fun ⟨i,hi,e⟩=>(fam_ne HFLT.out (show w.heap.size<=w.heap.size from HGEB0.out)) i hi (e.symm)) h2)));have HBz_8:=Hi26 (HM8.out.blk HBz_7.out (fun h=>h.elim ((show kz≠M.lb from fun h=>HNBlBz.out h.symm)) (fun h2=>(fun ⟨i,hi,e⟩=>(fam_ne HFLT.out (show w.heap.size<=kz from HGEBz.out)) i hi (e.symm)) h2)));have HB1_8:=Hi26 (HM8.out.blk HB1_7.out (fun h=>h.elim ((show w2.heap.size≠M.lb from by have:=HBl_2.out.lt;first|omega|(simp only [];omega)|(simp;omega))) (fun h2=>(fun ⟨i,hi,e⟩=>(fam_ne HFLT.out (show w.heap.size<=w2.heap.size from HGEB1.out)) i hi (e.symm)) h2)));have HX8:Hid (Mv X w (M.S p P.m) w8):=Hi26 (HX7.out.comp HM8.out (fun q h=>Or.inl ((fun q h=>h.elim (fun e=>Or.inr (Or.inr (Or.inl e))) (fun e=>Or.inr (Or.inr (Or.inr (Or.inr (Or.inr e)))))) q h)));by_cases hlt:k2<P.m
    ·have hlt2:(k2:Int)<(P.m:Int):=by omega
     by_cases hj:k2=row
     ·have hj2:((k2:Int) != (row:Int))=false:=by simp;omega
      have HJ:=Hi26 hj;clear hj;go_wp2_with fail;go_roundw
      case rel=>exact ⟨k2+1,by go_num,by omega,Hi26 ⟨HM8.out,⟨_,HBl_8.out,PvL.skip HJ.out HCK.out⟩,PvF.skip HJ.out HFK.out⟩⟩
      case measure=>simp [intOf];omega
     ·have hj2:((k2:Int) != (row:Int))=true:=by simp;omega
      have HJ:=Hi26 hj;clear hj;obtain ⟨CG,g1_,g2_⟩:=PvF.rowk HFK.out hlt;have HBg:=Hi26 g1_;have HCG:=Hi26 g2_;clear g1_ g2_;have HL0_:=Hi26 (PvL.now HCK.out hlt);have HL1_:=Hi26 (HCK.out k2 hlt).2;go_wp2_with fail;refine region_e [.val (.pointer (some ⟨p,0,none⟩)),.val (.pointer (some ⟨p,0,none⟩)),.val (.pointer (some ⟨p,2,none⟩)),.val (.slice (some ⟨M.lb,0,none⟩) P.m M.lc),.val (.int .i64 (k2:Int)),.val (.pointer (some ⟨M.lb,k2*2,none⟩)),.val (.int .i64 (at_:Int)),.val (.agg #[.string (qs (-T.c row / T.f row at_)),.slice (some ⟨kz,0,none⟩) P.n P.n]),.ev (.tuple #[])] (fun L g W=>(if L 8=true then ∃ LD,Blk W M.lb LD 182/\LD[k2*2]?=some (.string (qs (T.c k2+T.f k2 at_*T.byc row at_)))/\(∀ i,i≠k2*2->LD[i]?=CK2[i]?)/\∃ FD,Blk W (M.fb k2) FD 34/\∀ j,j<P.n->FD[j]?=some (.string (qs ((if j=at_ then 0 else T.f k2 j)+T.f k2 at_*T.byf row at_ j))) else Blk W M.lb CK2 182/\Blk W (M.fb k2) CG 34)) (S:=fun k=>k=M.lb∨k=M.fb k2) (by kernel_rfl) (by kernel_rfl) (by kernel_rfl) (Mv.refl HX8.out.ext (fun k h=>h.elim (fun e=>Nat.le_trans (HX8.out.le (Or.inl (Or.inr (Or.inr (Or.inl rfl))))) (Nat.le_of_eq e.symm)) (fun h2=>(fun e=>Nat.le_trans (HX8.out.le (Or.inl (Or.inr (Or.inr (Or.inr (Or.inr (Or.inr ⟨k2,hlt,rfl⟩))))))) (Nat.le_of_eq e.symm)) h2))) ?_ ?_ ?_ ?_ (fun gv_ w9 hm_ he_=>?_)
      ·exact fun gz_=>(by rw [if_neg (by decide)];exact ⟨HBl_8.out.drew,HBg.out.drew⟩)
      ·exact fun L g W W1 h e=>ite_ext (h) (fun ⟨LD,b1,b2,b3,FD,b4,b5⟩=>⟨LD,b1.ext e,b2,b3,FD,b4.ext e,b5⟩) (fun h=>⟨h.1.ext e,h.2.ext e⟩)
      ·intro i v L g W hi h;have n8_:i≠8:=fun e=>by subst e;exact absurd (show false=true from hi) (by decide)
       simp only [up_ne n8_,ug_ne n8_];exact h
      ·skip
       refine RI 0 (.pointer (some ⟨p,0,none⟩))<|R1 0<|R1 1<|J2 (fun hs_=>hs_.val 2) (fun hs_=>(hs_.mv.blk HBp_8.out (fun h=>h.elim ((show p≠M.lb from HN2.out)) (fun h2=>((show p≠M.fb k2 from fun h=>(HFP.out) k2 hlt h.symm)) h2))).cell (2) HP0.out.2.2.1)<|RI 11 (.int .i64 (k2:Int))<|R2 3 4<|RI 2 (.int .i64 (at_:Int))<|J3 (fun hs_=>hs_.is 8 (.pointer (some ⟨w2.heap.size,0,none⟩))) (fun hs_=>(hs_.mv.blk HB1_8.out (fun h=>h.elim ((show w2.heap.size≠M.lb from by have:=HBl_2.out.lt;first|omega|(simp only [];omega)|(simp;omega))) (fun h2=>((show w2.heap.size≠M.fb k2 from fun h=>((fam_ne HFLT.out (show w.heap.size<=w2.heap.size from HGEB1.out))) k2 hlt h.symm)) h2))).cell 0 rfl) (fun hs_=>(hs_.mv.blk HB1_8.out (fun h=>h.elim ((show w2.heap.size≠M.lb from by have:=HBl_2.out.lt;first|omega|(simp only [];omega)|(simp;omega))) (fun h2=>((show w2.heap.size≠M.fb k2 from fun h=>((fam_ne HFLT.out (show w.heap.size<=w2.heap.size from HGEB1.out))) k2 hlt h.symm)) h2))).cell 1 rfl) ?_;refine RnEL.cons (fun L_ g_ A_ W_ hs_=>?_) ?_
       ·have q79_:=hs_.val 5;have q80_:=hs_.val 6;have q81_:=hs_.val 7;refine RnE.ev fun K_ hK_=>?_;have n_:=hs_.not;have e_:=hs_.e;rw [if_neg (by rw [n_];decide)] at e_;have HE_:=Hi26 e_;have HM_:=Hi26 hs_.mv;clear e_ n_;go_simp;refine (put_c X M.lb (k2*2) (M.fb k2) (M.fc k2) P.n at_ kz P.n (q+q) (T.c k2) (T.byc row at_) (T.f k2) (T.byf row at_) CK2 CG CK 182 _ HG.out HM_.out.ext HLO.out.2.2.1 (HLO.out.2.2.2.2.2 k2 hlt) (fun h=>(HFL.out) k2 hlt h.symm) (fun h=>HNBlBz.out h.symm) (fun h=>((fam_ne HFLT.out (show w.heap.size<=kz from HGEBz.out))) k2 hlt h.symm) HE_.out.1 HE_.out.2 (HM_.out.blk HBz_8.out (fun h=>h.elim ((show kz≠M.lb from fun h=>HNBlBz.out h.symm)) (fun h2=>((show kz≠M.fb k2 from fun h=>((fam_ne HFLT.out (show w.heap.size<=kz from HGEBz.out))) k2 hlt h.symm)) h2))) HL0_.out HL1_.out HCG.out HCY.out HA.out (by omega) (by omega) (by omega) ((HQc.out k2 hlt).mono (by omega)) HQb.out (fun j hj=>(HQf.out k2 hlt j hj).mono (by omega)) HQbf.out).mono ?_;rintro e W9_ ⟨rfl,m9_,l9_⟩;exact hK_.out _ (HM_.out.comp m9_ (fun q h=>Or.inl h)) (by rw [up_at,if_pos rfl];exact l9_)
       exact RnEL.nil
      simp only [fse,Ke.value,puts,Act.put,List.setIfInBounds_toArray,List.set_cons_zero,List.set_cons_succ];have HX9:=Hi26 (HX8.out.comp hm_ (fun k h=>h.elim (fun e=>(by rw [e];exact (Or.inl (Or.inr (Or.inr (Or.inl rfl)))))) (fun h2=>(fun e=>(by rw [e];exact (Or.inl (Or.inr (Or.inr (Or.inr (Or.inr (Or.inr ⟨k2,hlt,rfl⟩)))))))) h2)));have HBp_9:=Hi26 (hm_.blk HBp_8.out (fun h=>h.elim ((show p≠M.lb from HN2.out)) (fun h2=>((show p≠M.fb k2 from fun h=>(HFP.out) k2 hlt h.symm)) h2)));have HBb_9:=Hi26 (hm_.blk HBb_8.out (fun h=>h.elim ((show M.bb≠M.lb from HN6.out)) (fun h2=>((show M.bb≠M.fb k2 from fun h=>(HFBB.out) k2 hlt h.symm)) h2)));have HBo_9:=Hi26 (hm_.blk HBo_8.out (fun h=>h.elim ((show M.ob≠M.lb from fun h=>HN10.out h.symm)) (fun h2=>((show M.ob≠M.fb k2 from fun h=>(HFO.out) k2 hlt h.symm)) h2)));have HBw_9:=Hi26 (hm_.blk HBw_8.out (fun h=>h.elim ((show M.wb≠M.lb from fun h=>HN11.out h.symm)) (fun h2=>((show M.wb≠M.fb k2 from fun h=>(HFW.out) k2 hlt h.symm)) h2)));have HB0_9:=Hi26 (hm_.blk HB0_8.out (fun h=>h.elim ((show w.heap.size≠M.lb from by have:=HBl.out.lt;first|omega|(simp only [];omega)|(simp;omega))) (fun h2=>((show w.heap.size≠M.fb k2 from fun h=>((fam_ne HFLT.out (show w.heap.size<=w.heap.size from HGEB0.out))) k2 hlt h.symm)) h2)));have HBz_9:=Hi26 (hm_.blk HBz_8.out (fun h=>h.elim ((show kz≠M.lb from fun h=>HNBlBz.out h.symm)) (fun h2=>((show kz≠M.fb k2 from fun h=>((fam_ne HFLT.out (show w.heap.size<=kz from HGEBz.out))) k2 hlt h.symm)) h2)));have HB1_9:=Hi26 (hm_.blk HB1_8.out (fun h=>h.elim ((show w2.heap.size≠M.lb from by have:=HBl_2.out.lt;first|omega|(simp only [];omega)|(simp;omega))) (fun h2=>((show w2.heap.size≠M.fb k2 from fun h=>((fam_ne HFLT.out (show w.heap.size<=w2.heap.size from HGEB1.out))) k2 hlt h.symm)) h2)));have h_:=(he_);rw [if_pos rfl] at h_;obtain ⟨LD,b1,b2,b3,FD,b4,b5⟩:=h_;have HBl_9:=Hi26 b1;have HLD:=Hi26 b2;have HLN:=Hi26 b3;have HBg_9:=Hi26 b4;have HFD:=Hi26 b5;clear b1 b2 b3 b4 b5;have HMR:=Hi26 hm_;clear hm_ he_;go_wp2_with fail;go_roundw
      case rel=>exact ⟨k2+1,by go_num,by omega,Hi26 ⟨HM8.out.comp HMR.out (fun q h=>Or.inl (h.elim Or.inl (fun e=>Or.inr ⟨k2,hlt,e⟩))),⟨_,HBl_9.out,PvL.step HJ.out HCK.out HLD.out HLN.out⟩,PvF.step HMR.out HINJ.out hlt HJ.out HFK.out HFL.out HBg_9.out HFD.out⟩⟩
      case measure=>simp [intOf];omega
    ·have hk2:k2=P.m:=by omega
     have hge:¬ (k2:Int)<(P.m:Int):=by omega
     have HLR0:=Hi26 (PvL.atrow HCK.out HR.out);have HLR1:=Hi26 (HCK.out row HR.out).2;go_wp2_with fail;refine region_e [.val (.pointer (some ⟨p,0,none⟩)),.val (.pointer (some ⟨p,0,none⟩)),.val (.pointer (some ⟨p,4,none⟩)),.val (.int .i64 (at_:Int)),.val (.agg #[.string (qs (-T.c row / T.f row at_)),.slice (some ⟨kz,0,none⟩) P.n P.n]),.ev (.tuple #[])] (fun L g W=>(if L 5=true then ∃ LD,Blk W p LD 185/\LD[4]?=some (.string (qs (T.wc+T.wf at_*T.byc row at_)))/\(∀ i,i≠4->LD[i]?=CP[i]?)/\∃ FD,Blk W M.wb FD 34/\∀ j,j<P.n->FD[j]?=some (.string (qs ((if j=at_ then 0 else T.wf j)+T.wf at_*T.byf row at_ j))) else Blk W p CP 185/\Blk W M.wb CW 34)) (S:=fun k=>k=p∨k=M.wb) (by kernel_rfl) (by kernel_rfl) (by kernel_rfl) (Mv.refl HX8.out.ext (fun k h=>h.elim (fun e=>Nat.le_trans (HX8.out.le (Or.inl (Or.inl rfl))) (Nat.le_of_eq e.symm)) (fun h2=>(fun e=>Nat.le_trans (HX8.out.le (Or.inl (Or.inr (Or.inr (Or.inr (Or.inr (Or.inl rfl))))))) (Nat.le_of_eq e.symm)) h2))) ?_ ?_ ?_ ?_ (fun gv_ w9 hm_ he_=>?_)
     ·exact fun gz_=>(by rw [if_neg (by decide)];exact ⟨HBp_8.out.drew,HBw_8.out.drew⟩)
     ·exact fun L g W W1 h e=>ite_ext (h) (fun ⟨LD,b1,b2,b3,FD,b4,b5⟩=>⟨LD,b1.ext e,b2,b3,FD,b4.ext e,b5⟩) (fun h=>⟨h.1.ext e,h.2.ext e⟩)
     ·intro i v L g W hi h;have n5_:i≠5:=fun e=>by subst e;exact absurd (show false=true from hi) (by decide)
      simp only [up_ne n5_,ug_ne n5_];exact h
     ·skip
      refine RI 0 (.pointer (some ⟨p,0,none⟩))<|R1 0<|R1 1<|RI 2 (.int .i64 (at_:Int))<|J3 (fun hs_=>hs_.is 8 (.pointer (some ⟨w2.heap.size,0,none⟩))) (fun hs_=>(hs_.mv.blk HB1_8.out (fun h=>h.elim ((show w2.heap.size≠p from by have:=HBp_2.out.lt;first|omega|(simp only [];omega)|(simp;omega))) (fun h2=>((show w2.heap.size≠M.wb from by have:=HBw_2.out.lt;first|omega|(simp only [];omega)|(simp;omega))) h2))).cell 0 rfl) (fun hs_=>(hs_.mv.blk HB1_8.out (fun h=>h.elim ((show w2.heap.size≠p from by have:=HBp_2.out.lt;first|omega|(simp only [];omega)|(simp;omega))) (fun h2=>((show w2.heap.size≠M.wb from by have:=HBw_2.out.lt;first|omega|(simp only [];omega)|(simp;omega))) h2))).cell 1 rfl) ?_;refine RnEL.cons (fun L_ g_ A_ W_ hs_=>?_) ?_
      ·have q86_:=hs_.val 2;have q87_:=hs_.val 3;have q88_:=hs_.val 4;refine RnE.ev fun K_ hK_=>?_;have n_:=hs_.not;have e_:=hs_.e;rw [if_neg (by rw [n_];decide)] at e_;have HE_:=Hi26 e_;have HM_:=Hi26 hs_.mv;clear e_ n_;go_simp;refine (put_c X p 4 M.wb M.wcap P.n at_ kz P.n (q+q) T.wc (T.byc row at_) T.wf (T.byf row at_) CP CW CK 185 _ HG.out HM_.out.ext HLO.out.1 HLO.out.2.2.2.2.1 (HN4.out) (fun h=>HNBpBz.out h.symm) (fun h=>HNBwBz.out h.symm) HE_.out.1 HE_.out.2 (HM_.out.blk HBz_8.out (fun h=>h.elim ((show kz≠p from fun h=>HNBpBz.out h.symm)) (fun h2=>((show kz≠M.wb from fun h=>HNBwBz.out h.symm)) h2))) HP0.out.2.2.2.2.1 HP0.out.2.2.2.2.2 HCW.out HCY.out HA.out (by omega) (by omega) (by omega) (HQwc.out.mono (by omega)) HQb.out (fun j hj=>(HQw.out j hj).mono (by omega)) HQbf.out).mono ?_;rintro e W9_ ⟨rfl,m9_,l9_⟩;exact hK_.out _ (HM_.out.comp m9_ (fun q h=>Or.inl h)) (by rw [up_at,if_pos rfl];exact l9_)
      exact RnEL.nil
     simp only [fse,Ke.value,puts,Act.put,List.setIfInBounds_toArray,List.set_cons_zero,List.set_cons_succ];have HX9:=Hi26 (HX8.out.comp hm_ (fun k h=>h.elim (fun e=>(by rw [e];exact (Or.inl (Or.inl rfl)))) (fun h2=>(fun e=>(by rw [e];exact (Or.inl (Or.inr (Or.inr (Or.inr (Or.inr (Or.inl rfl)))))))) h2)));have HBb_9:=Hi26 (hm_.blk HBb_8.out (fun h=>h.elim ((show M.bb≠p from fun h=>HN1.out h.symm)) (fun h2=>((show M.bb≠M.wb from HN8.out)) h2)));have HBl_9:=Hi26 (hm_.blk HBl_8.out (fun h=>h.elim ((show M.lb≠p from fun h=>HN2.out h.symm)) (fun h2=>((show M.lb≠M.wb from HN11.out)) h2)));have HBo_9:=Hi26 (hm_.blk HBo_8.out (fun h=>h.elim ((show M.ob≠p from fun h=>HN3.out h.symm)) (fun h2=>((show M.ob≠M.wb from HN13.out)) h2)));have HB0_9:=Hi26 (hm_.blk HB0_8.out (fun h=>h.elim ((show w.heap.size≠p from by have:=HBp.out.lt;first|omega|(simp only [];omega)|(simp;omega))) (fun h2=>((show w.heap.size≠M.wb from by have:=HBw.out.lt;first|omega|(simp only [];omega)|(simp;omega))) h2)));have HBz_9:=Hi26 (hm_.blk HBz_8.out (fun h=>h.elim ((show kz≠p from fun h=>HNBpBz.out h.symm)) (fun h2=>((show kz≠M.wb from fun h=>HNBwBz.out h.symm)) h2)));have HB1_9:=Hi26 (hm_.blk HB1_8.out (fun h=>h.elim ((show w2.heap.size≠p from by have:=HBp_2.out.lt;first|omega|(simp only [];omega)|(simp;omega))) (fun h2=>((show w2.heap.size≠M.wb from by have:=HBw_2.out.lt;first|omega|(simp only [];omega)|(simp;omega))) h2)));have HBF_9:=Hi26 (HFK.out.mv hm_ (fun i hi h=>h.elim ((HFP.out) i hi) (fun h2=>((HFW.out) i hi) h2)));have h_:=(he_);rw [if_pos rfl] at h_;obtain ⟨LP_,b1,b2,b3,FD,b4,b5⟩:=h_;have HBp_9:=Hi26 b1;have HLP:=Hi26 b2;have HLPN:=Hi26 b3;have HBw_9:=Hi26 b4;have HWD:=Hi26 b5;clear b1 b2 b3 b4 b5;clear hm_ he_;have HP1:=Hi26 (And.intro ((HLPN.out 0 (by decide)).trans HP0.out.1) (And.intro ((HLPN.out 1 (by decide)).trans HP0.out.2.1) (And.intro ((HLPN.out 2 (by decide)).trans HP0.out.2.2.1) (And.intro ((HLPN.out 3 (by decide)).trans HP0.out.2.2.2.1) (And.intro HLP.out ((HLPN.out 5 (by decide)).trans HP0.out.2.2.2.2.2))))));go_wp2_with fail;refine region_e [.val (.pointer (some ⟨p,0,none⟩)),.val (.pointer (some ⟨p,0,none⟩)),.val (.pointer (some ⟨p,2,none⟩)),.val (.slice (some ⟨M.lb,0,none⟩) P.m M.lc),.val (.int .i64 (row:Int)),.val (.agg #[.string (qs (-T.c row / T.f row at_)),.slice (some ⟨kz,0,none⟩) P.n P.n]),.val (.pointer (some ⟨M.lb,row*2,none⟩)),.eff] (fun L g W=>(if L 7=true then Blk W (M.lb) (((CK2).setIfInBounds (row*2) (.string (qs (-T.c row / T.f row at_)))).setIfInBounds (row*2+1) (.slice (some ⟨kz,0,none⟩) P.n P.n)) 182 else Blk W (M.lb) (CK2) 182)) (S:=fun k=>k=M.lb) (by kernel_rfl) (by kernel_rfl) (by kernel_rfl) (Mv.refl HX9.out.ext (fun k h=>(fun e=>Nat.le_trans (HX9.out.le (Or.inl (Or.inr (Or.inr (Or.inl rfl))))) (Nat.le_of_eq e.symm)) h)) ?_ ?_ ?_ ?_ (fun gv_ w10 hm_ he_=>?_)
     ·exact fun gz_=>(by rw [if_neg (by decide)];exact HBl_9.out.drew)
     ·exact fun L g W W1 h e=>ite_ext (h) (fun h=>h.ext e) (fun h=>h.ext e)
     ·intro i v L g W hi h;have n7_:i≠7:=fun e=>by subst e;exact absurd (show false=true from hi) (by decide)
      simp only [up_ne n7_,ug_ne n7_];exact h
     ·skip
      refine RI 0 (.pointer (some ⟨p,0,none⟩))<|R1 0<|R1 1<|J2 (fun hs_=>hs_.val 2) (fun hs_=>(hs_.mv.blk HBp_9.out (fun h=>((show p≠M.lb from HN2.out)) h)).cell (2) HP1.out.2.2.1)<|RI 1 (.int .i64 (row:Int))<|J3 (fun hs_=>hs_.is 8 (.pointer (some ⟨w2.heap.size,0,none⟩))) (fun hs_=>(hs_.mv.blk HB1_9.out (fun h=>((show w2.heap.size≠M.lb from by have:=HBl_2.out.lt;first|omega|(simp only [];omega)|(simp;omega))) h)).cell 0 rfl) (fun hs_=>(hs_.mv.blk HB1_9.out (fun h=>((show w2.heap.size≠M.lb from by have:=HBl_2.out.lt;first|omega|(simp only [];omega)|(simp;omega))) h)).cell 1 rfl)<|R2 3 4 ?_;refine RnEL.cons (fun L_ g_ A_ W_ hs_=>?_) ?_
      ·have q96_:=hs_.val 6;have q95_:=hs_.val 5;refine RnE.eff fun K_ hK_=>?_;have n_:=hs_.not;have e_:=hs_.e;rw [if_neg (by rw [n_];decide)] at e_;have c_0:=e_.cell (row*2) HLR0.out;have f_0:=e_.free (row*2);have c_1:=e_.cell (row*2+1) HLR1.out;have f_1:=e_.free (row*2+1);have HE_:=Hi26 e_;have HM_:=Hi26 hs_.mv;have HEE_:=Hi26 hs_.e;clear e_ n_;go_simp;exact hK_.out undef _ ((HM_.out.setCell (Or.inl (rfl)) _).setCell (Or.inl (rfl)) _) (by rw [up_at,if_pos rfl];exact ((HE_.out.set (row*2) _).set (row*2+1) _))
      exact RnEL.nil
     simp only [fse,Ke.value,puts,Act.put,List.setIfInBounds_toArray,List.set_cons_zero,List.set_cons_succ];have HX10:=Hi26 (HX9.out.comp hm_ (fun k h=>(fun e=>(by rw [e];exact (Or.inl (Or.inr (Or.inr (Or.inl rfl)))))) h));have HBp_10:=Hi26 (hm_.blk HBp_9.out (fun h=>((show p≠M.lb from HN2.out)) h));have HBb_10:=Hi26 (hm_.blk HBb_9.out (fun h=>((show M.bb≠M.lb from HN6.out)) h));have HBl_10:Hid (Blk w10 (M.lb) (((CK2).setIfInBounds (row*2) (.string (qs (-T.c row / T.f row at_)))).setIfInBounds (row*2+1) (.slice (some ⟨kz,0,none⟩) P.n P.n)) 182):=Hi26 (by have h_:=he_;rw [if_pos rfl] at h_;exact h_);have HBo_10:=Hi26 (hm_.blk HBo_9.out (fun h=>((show M.ob≠M.lb from fun h=>HN10.out h.symm)) h));have HBw_10:=Hi26 (hm_.blk HBw_9.out (fun h=>((show M.wb≠M.lb from fun h=>HN11.out h.symm)) h));have HB0_10:=Hi26 (hm_.blk HB0_9.out (fun h=>((show w.heap.size≠M.lb from by have:=HBl.out.lt;first|omega|(simp only [];omega)|(simp;omega))) h));have HBz_10:=Hi26 (hm_.blk HBz_9.out (fun h=>((show kz≠M.lb from fun h=>HNBlBz.out h.symm)) h));have HB1_10:=Hi26 (hm_.blk HB1_9.out (fun h=>((show w2.heap.size≠M.lb from by have:=HBl_2.out.lt;first|omega|(simp only [];omega)|(simp;omega))) h));have HBF_10:=Hi26 (HBF_9.out.mv hm_ (fun i hi h=>((HFL.out) i hi) h));clear hm_ he_;go_wp2_with fail;refine region_e [.val (.pointer (some ⟨p,0,none⟩)),.val (.pointer (some ⟨p,0,none⟩)),.val (.pointer (some ⟨p,1,none⟩)),.val (.slice (some ⟨M.bb,0,none⟩) P.m M.bc),.val (.int .i64 (row:Int)),.val (.pointer (some ⟨p,0,none⟩)),.val (.pointer (some ⟨p,0,none⟩)),.val (.pointer (some ⟨p,3,none⟩)),.val (.slice (some ⟨M.ob,0,none⟩) P.n M.oc),.val (.int .i64 (at_:Int)),.val (.pointer (some ⟨p,0,none⟩)),.val (.pointer (some ⟨p,0,none⟩)),.val (.pointer (some ⟨p,3,none⟩)),.val (.slice (some ⟨M.ob,0,none⟩) P.n M.oc),.val (.int .i64 (at_:Int)),.val (.pointer (some ⟨M.ob,at_,none⟩)),.val (.int .i64 (T.o at_:Int)),.val (.pointer (some ⟨p,0,none⟩)),.val (.pointer (some ⟨p,0,none⟩)),.val (.pointer (some ⟨p,1,none⟩)),.val (.slice (some ⟨M.bb,0,none⟩) P.m M.bc),.val (.int .i64 (row:Int)),.val (.pointer (some ⟨M.bb,row,none⟩)),.val (.int .i64 (T.b row:Int)),.val (.pointer (some ⟨M.bb,row,none⟩)),.eff,.val (.pointer (some ⟨M.ob,at_,none⟩)),.eff] (fun L g W=>(if L 25=true then Blk W (M.bb) ((CB).setIfInBounds row (.int .i64 (T.o at_:Int))) 3 else Blk W (M.bb) (CB) 3)/\(if L 27=true then Blk W (M.ob) ((CO).setIfInBounds at_ (.int .i64 (T.b row:Int))) 3 else Blk W (M.ob) (CO) 3)) (S:=fun k=>k=M.bb∨k=M.ob) (by kernel_rfl) (by kernel_rfl) (by kernel_rfl) (Mv.refl HX10.out.ext (fun k h=>h.elim (fun e=>Nat.le_trans (HX10.out.le (Or.inl (Or.inr (Or.inl rfl)))) (Nat.le_of_eq e.symm)) (fun h2=>(fun e=>Nat.le_trans (HX10.out.le (Or.inl (Or.inr (Or.inr (Or.inr (Or.inl rfl)))))) (Nat.le_of_eq e.symm)) h2))) ?_ ?_ ?_ ?_ (fun gv_ w11 hm_ he_=>?_)
     ·exact fun gz_=>⟨(by rw [if_neg (by decide)];exact HBb_10.out.drew),(by rw [if_neg (by decide)];exact HBo_10.out.drew)⟩
     ·exact fun L g W W1 h e=>⟨ite_ext (h.1) (fun h=>h.ext e) (fun h=>h.ext e),ite_ext (h.2) (fun h=>h.ext e) (fun h=>h.ext e)⟩
     ·intro i v L g W hi h;have n25_:i≠25:=fun e=>by subst e;exact absurd (show false=true from hi) (by decide)
      have n27_:i≠27:=fun e=>by subst e;exact absurd (show false=true from hi) (by decide)
      simp only [up_ne n25_,ug_ne n25_,up_ne n27_,ug_ne n27_];exact h
     ·skip
      refine RI 0 (.pointer (some ⟨p,0,none⟩))<|R1 0<|R1 1<|J2 (fun hs_=>hs_.val 2) (fun hs_=>(hs_.mv.blk HBp_10.out (fun h=>h.elim ((show p≠M.bb from HN1.out)) (fun h2=>((show p≠M.ob from HN3.out)) h2))).cell (1) HP1.out.2.1)<|RI 1 (.int .i64 (row:Int))<|RI 0 (.pointer (some ⟨p,0,none⟩))<|R1 5<|R1 6<|J2 (fun hs_=>hs_.val 7) (fun hs_=>(hs_.mv.blk HBp_10.out (fun h=>h.elim ((show p≠M.bb from HN1.out)) (fun h2=>((show p≠M.ob from HN3.out)) h2))).cell (3) HP1.out.2.2.2.1)<|RI 2 (.int .i64 (at_:Int))<|RI 0 (.pointer (some ⟨p,0,none⟩))<|R1 10<|R1 11<|J2 (fun hs_=>hs_.val 12) (fun hs_=>(hs_.mv.blk HBp_10.out (fun h=>h.elim ((show p≠M.bb from HN1.out)) (fun h2=>((show p≠M.ob from HN3.out)) h2))).cell (3) HP1.out.2.2.2.1)<|RI 2 (.int .i64 (at_:Int))<|R2 13 14 ?_;refine RV (fun A_ hs_ K_ hK_=>?_) ?_;· have q112_:=hs_.val 15;have n27_:=hs_.no 27 (by decide) (by kernel_rfl);have e27_:=hs_.e.2;rw [if_neg (by rw [n27_];decide)] at e27_;have co_at_:=e27_.cell (at_) (HCO.out at_ HA.out);clear e27_ n27_;go_simp;exact fin_ hK_
      refine RI 0 (.pointer (some ⟨p,0,none⟩))<|R1 17<|R1 18<|J2 (fun hs_=>hs_.val 19) (fun hs_=>(hs_.mv.blk HBp_10.out (fun h=>h.elim ((show p≠M.bb from HN1.out)) (fun h2=>((show p≠M.ob from HN3.out)) h2))).cell (1) HP1.out.2.1)<|RI 1 (.int .i64 (row:Int))<|R2 20 21 ?_;refine RV (fun A_ hs_ K_ hK_=>?_) ?_;· have q119_:=hs_.val 22;have n25_:=hs_.no 25 (by decide) (by kernel_rfl);have e25_:=hs_.e.1;rw [if_neg (by rw [n25_];decide)] at e25_;have cb_row:=e25_.cell (row) (HCB.out row HR.out);clear e25_ n25_;go_simp;exact fin_ hK_
      refine R2 3 4 ?_;refine RnEL.cons (fun L_ g_ A_ W_ hs_=>?_) ?_
      ·have q121_:=hs_.val 24;have q113_:=hs_.val 16;refine RnE.eff fun K_ hK_=>?_;have n_:=hs_.not;have e_:=hs_.e.1;rw [if_neg (by rw [n_];decide)] at e_;have c_0:=e_.cell (row) (HCB.out row HR.out);have f_0:=e_.free row;have HE_:=Hi26 e_;have HM_:=Hi26 hs_.mv;have HEE_:=Hi26 hs_.e;clear e_ n_;go_simp;exact hK_.out undef _ (HM_.out.setCell (Or.inl (Or.inl rfl)) _) ⟨(by rw [up_at,if_pos rfl];exact (HE_.out.set row _)),(by rw [up_ne (by decide)];exact (ite_map HEE_.out.2 (fun h=>h.other (a:=⟨M.bb,row,none⟩) _ (fun h=>HN7.out h.symm)) (fun h=>h.other (a:=⟨M.bb,row,none⟩) _ (fun h=>HN7.out h.symm))))⟩
      refine R2 8 9 ?_;refine RnEL.cons (fun L_ g_ A_ W_ hs_=>?_) ?_
      ·have q122_:=hs_.val 26;have q120_:=hs_.val 23;refine RnE.eff fun K_ hK_=>?_;have n_:=hs_.not;have e_:=hs_.e.2;rw [if_neg (by rw [n_];decide)] at e_;have c_0:=e_.cell (at_) (HCO.out at_ HA.out);have f_0:=e_.free at_;have HE_:=Hi26 e_;have HM_:=Hi26 hs_.mv;have HEE_:=Hi26 hs_.e;clear e_ n_;go_simp;exact hK_.out undef _ (HM_.out.setCell (Or.inl (Or.inr (rfl))) _) ⟨(by rw [up_ne (by decide)];exact (ite_map HEE_.out.1 (fun h=>h.other (a:=⟨M.ob,at_,none⟩) _ (HN7.out)) (fun h=>h.other (a:=⟨M.ob,at_,none⟩) _ (HN7.out)))),(by rw [up_at,if_pos rfl];exact (HE_.out.set at_ _))⟩
      exact RnEL.nil
     simp only [fse,Ke.value,puts,Act.put,List.setIfInBounds_toArray,List.set_cons_zero,List.set_cons_succ];have HX11:=Hi26 (HX10.out.comp hm_ (fun k h=>h.elim (fun e=>(by rw [e];exact (Or.inl (Or.inr (Or.inl rfl))))) (fun h2=>(fun e=>(by rw [e];exact (Or.inl (Or.inr (Or.inr (Or.inr (Or.inl rfl))))))) h2)));have HBp_11:=Hi26 (hm_.blk HBp_10.out (fun h=>h.elim ((show p≠M.bb from HN1.out)) (fun h2=>((show p≠M.ob from HN3.out)) h2)));have HBb_11:Hid (Blk w11 (M.bb) ((CB).setIfInBounds row (.int .i64 (T.o at_:Int))) 3):=Hi26 (by have h_:=he_.1;rw [if_pos rfl] at h_;exact h_);have HBl_11:=Hi26 (hm_.blk HBl_10.out (fun h=>h.elim ((show M.lb≠M.bb from fun h=>HN6.out h.symm)) (fun h2=>((show M.lb≠M.ob from HN10.out)) h2)));have HBo_11:Hid (Blk w11 (M.ob) ((CO).setIfInBounds at_ (.int .i64 (T.b row:Int))) 3):=Hi26 (by have h_:=he_.2;rw [if_pos rfl] at h_;exact h_);have HBw_11:=Hi26 (hm_.blk HBw_10.out (fun h=>h.elim ((show M.wb≠M.bb from fun h=>HN8.out h.symm)) (fun h2=>((show M.wb≠M.ob from fun h=>HN13.out h.symm)) h2)));have HB0_11:=Hi26 (hm_.blk HB0_10.out (fun h=>h.elim ((show w.heap.size≠M.bb from by have:=HBb.out.lt;first|omega|(simp only [];omega)|(simp;omega))) (fun h2=>((show w.heap.size≠M.ob from by have:=HBo.out.lt;first|omega|(simp only [];omega)|(simp;omega))) h2)));have HBz_11:=Hi26 (hm_.blk HBz_10.out (fun h=>h.elim ((show kz≠M.bb from fun h=>HNBbBz.out h.symm)) (fun h2=>((show kz≠M.ob from fun h=>HNBoBz.out h.symm)) h2)));have HB1_11:=Hi26 (hm_.blk HB1_10.out (fun h=>h.elim ((show w2.heap.size≠M.bb from by have:=HBb_2.out.lt;first|omega|(simp only [];omega)|(simp;omega))) (fun h2=>((show w2.heap.size≠M.ob from by have:=HBo_2.out.lt;first|omega|(simp only [];omega)|(simp;omega))) h2)));have HBF_11:=Hi26 (HBF_10.out.mv hm_ (fun i hi h=>h.elim ((HFBB.out) i hi) (fun h2=>((HFO.out) i hi) h2)));clear hm_ he_;have HZN:Hid (∀ i,i<P.m->M.fb i≠kz):=Hi26 (fam_ne HFLT.out HGEBz.out);go_wp2
     first|go_end0|((try simp only [Exit.inBlock,Exit.then]);refine bodyPost_ret (results_none rfl _ _ _) rfl ?_)
     exact ⟨rfl,HX11.out,kz,HGEBz.out,piv_mem HP1.out HBp_11.out HBb_11.out HCB.out HBo_11.out HCO.out HBl_11.out HCK.out hk2 HBF_11.out HBz_11.out HCY.out HBw_11.out HWD.out HR.out HA.out HINJ.out HFW.out HN7.out HZN.out HNBwBz.out.symm HCAP.out (by have:=hn;unfold maxLen;omega)⟩
end Go.Proofs.YtmahadmefplbnaaGreatDoor
