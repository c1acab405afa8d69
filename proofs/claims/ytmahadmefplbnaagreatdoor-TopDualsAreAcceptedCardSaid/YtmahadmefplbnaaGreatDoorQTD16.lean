/- Part 16. -/
import Derived.Test.YtmahadmefplbnaaGreatDoorQTDB
import Derived.Test.YtmahadmefplbnaaGreatDoorQTD14
import Derived.Test.YtmahadmefplbnaaGreatDoorQTD15
import Derived.RangeFuncWrites
set_option maxRecDepth 100000
set_option maxHeartbeats 2000000
open Go.Proofs.Tryz
namespace Go.Proofs.YtmahadmefplbnaaGreatDoor
open Go Go.RowKit Go.Shelf
attribute [local go_sem] Oper.semAt_some
def j7(w:World)(q r:Nat)(e:Ending)(w':World):Prop :=
 ∃ vq vr,e = .returned (.tuple #[vq,vr])/\Ext w w'/\cz w' vq q/\cz w' vr r
theorem cz.zero(w:World):cz w (.slice none 0 0) 0:=⟨[],Holds.nil _ _,Canon.nil _,rfl⟩
theorem Holds.one(W:World)(k:IntKind)(x:Nat)(t:TypeId):Holds k (W.alloc (.cells #[.int k x] t)) (.slice (Option.some ⟨W.heap.size,0,none⟩) 1 1) [x]:=by
 have:=ax.new W #[.int k x] t;refine Holds.some rfl ae ae this.lt (fun i hi=>?_);have hi:i=0:=by simpa using hi
 subst hi;exact this.cell 0 rfl
theorem cz.slice{w:World}{v:Value}{n:Nat}(h:cz w v n):∃ ad len cap,v = .slice ad len cap:=by
 obtain⟨l,⟨ad,cap,b,off,hv,_⟩,_⟩:=h;exact⟨ad,_,cap,hv⟩
theorem oE (a b:Nat) (va vb:Value) (w:World) (ha:cz w va a) (hb:cz w vb b) (h:a<b) :
    Calls prog 246 #[va,vb] w (j7 w 0 a):=by
 obtain⟨ad,la,ca,rfl⟩:=ha.slice;obtain⟨bd,lb,cb,rfl⟩:=hb.slice;have hcmp:=iS h;have HC:=aj hcmp;clear hcmp;go_enter func246,ntmps246;have e1:Ext w ((w.alloc (.cells #[.slice bd lb cb] 214)).alloc (.cells #[.slice none 0 0] 214)):=((Ext.refl w).alloc _).alloc _;have b3:=(ax.new w #[.slice bd lb cb] 214).alloc (.cells #[.slice none 0 0] 214);have b4:=ax.new (w.alloc (.cells #[.slice bd lb cb] 214)) #[.slice none 0 0] 214;rw[World.size_alloc] at b4;go_wp2_with (go_at_call 251;refine cto (dj a b _ _ _ (ha.ext e1) (hb.ext e1)) fun w1 e2=>?_;rw[HC.o];have b3':=b3.ext e2;have b4':=b4.ext e2;have c3:=b3'.cell 0 rfl;have c4:=b4'.cell 0 rfl;have f4:=b4'.free 0);have c5:=(b4'.set 0 (.slice none 0 0)).cell 0 rfl;have ez:Ext w (w1.setCell ⟨w.heap.size+1,0,none⟩ (.slice none 0 0)):=(e1.trans e2).setCell (by simp) _;exact bodyPost_ret (v:=.tuple #[.slice none 0 0,.slice ad la ca]) (by simp[results,results246,go_sem,c5]) rfl ⟨_,_,rfl,ez,cz.zero _,ha.ext ez⟩
theorem ax.ke{A B:World}{row:Option Nat}{k:Nat}{cs:Array Value}{t:TypeId}(h:ax A k cs t)(hg:A.grownBy B row)(hr:∀ r,row=some r->∃ o:Obj,A.heap[r]?=some o/\o.isCells=false):ax B k cs t :=
 h.grown hg (fun e=>by
  obtain⟨o,ho,hc⟩:=hr k e.symm;rw[h.out] at ho;cases ho;simp[Obj.isCells] at hc)
theorem vD {A B:World} {row:Option Nat} {base e n g cap:Nat} {xs:List Value} (h:A.ownsRow base e 1 (.slice (some ⟨g,0,none⟩) n cap) n xs) (hg:A.grownBy B row) (hr:∀ r,row=some r->∃ o:Obj,A.heap[r]?=some o/\o.isCells=false) :
    B.ownsRow base e 1 (.slice (some ⟨g,0,none⟩) n cap) n xs:=by
 refine h.kept hg (Or.inr ?_);intro e';obtain⟨o,ho,hc⟩:=hr g e'.symm;rcases h.2 with⟨h',_⟩|⟨g',cap',cur,h',_,hh,_⟩
 ·simp at h'
 ·simp only[Value.slice.injEq,Option.some.injEq,Addr.mk.injEq,and_true,true_and] at h';rw[← h'.1,ho] at hh;cases hh;simp[Obj.isCells] at hc
structure eZ(w:World)(g r qc bc n:Nat)(vb:Value)(W:World)(Q:List Value)(ρ:Int):Prop where
 own:W.ownsRow g 245 1 (.slice (some ⟨g,0,none⟩) n n) n Q
 rest:ax W r #[.int .u64 ρ] 245
 q:ax W qc #[.slice (some ⟨g,0,none⟩) n n] 214
 b:ax W bc #[vb] 214
 ext:Ext w W
theorem eZ.ke {w:World} {g r qc bc n:Nat} {vb:Value} {A B:World} {Q:List Value} {ρ:Int} {row:Option Nat} (h:eZ w g r qc bc n vb A Q ρ) (hg:A.grownBy B row) (hr:∀ r,row=some r->w.heap.size<=r/\∃ o:Obj,A.heap[r]?=some o/\o.isCells=false) :
    eZ w g r qc bc n vb B Q ρ :=
 ⟨vD h.own hg (fun r e=>(hr r e).2),h.rest.ke hg (fun r e=>(hr r e).2),h.q.ke hg (fun r e=>(hr r e).2),h.b.ke hg (fun r e=>(hr r e).2),h.ext.grown hg (fun k e=>(hr k e).1)⟩
theorem eZ.store {w:World} {g r qc bc n:Nat} {vb:Value} {A:World} {Q:List Value} {ρ:Int} (h:eZ w g r qc bc n vb A Q ρ) (i:Nat) (u:Value) (hw:w.heap.size<=g) (h1:r≠g) (h2:qc≠g) (h3:bc≠g) :
    eZ w g r qc bc n vb (A.setCell ⟨g,i,none⟩ u) (Q.set i u) ρ :=
 ⟨(h.own.stored i u).1,h.rest.other _ h1,h.q.other _ h2,h.b.other _ h3,h.ext.setCell hw _⟩
theorem eZ.tI {w:World} {g r qc bc n:Nat} {vb:Value} {A:World} {Q:List Value} {ρ:Int} (h:eZ w g r qc bc n vb A Q ρ) (σ:Int) (hw:w.heap.size<=r) (h1:g≠r) (h2:qc≠r) (h3:bc≠r) :
    eZ w g r qc bc n vb (A.setCell ⟨r,0,none⟩ (.int .u64 σ)) Q σ :=
 ⟨ownsRow_setCell_other h.own (by simp[Value.ownBlock];exact h1) _,h.rest.set 0 _,h.q.other _ h2,h.b.other _ h3,h.ext.setCell hw _⟩
theorem eZ.drew{w:World}{g r qc bc n:Nat}{vb:Value}{A:World}{Q:List Value}{ρ:Int}(h:eZ w g r qc bc n vb A Q ρ):eZ w g r qc bc n vb A.drew Q ρ :=
 ⟨h.own.drew,h.rest.drew,h.q.drew,h.b.drew,h.ext.drew⟩
theorem j4{n k i:Nat}{h:i<n}{pre:List (Fin n)}(hk:k<=n)(e:pre ++ [⟨i,h⟩]=bk n k):∃ k',k=k'+1/\pre=bk n k'/\i=n-1-k':=by
 cases k with
 | zero=>simp[bk] at e
 | succ k' =>
  rw[lE n k' _ rfl ae] at e;obtain⟨e1,e2⟩:=List.append_inj' e rfl;simp only[List.cons.injEq,Fin.mk.injEq,and_true] at e2;exact⟨k',rfl,e1,e2⟩
theorem wi {d r x:Nat} (hd1:d<1000000000) (hr:r<d) (hx:x<1000000000) :
    IntKind.u64.wrap ((IntKind.u64.wrap (IntKind.u64.wrap ((r:Int)*1000000000)+(x:Int))).tdiv (d:Int))=(((r*1000000000+x) / d:Nat):Int) /\
    (IntKind.u64.wrap (IntKind.u64.wrap ((r:Int)*1000000000)+(x:Int))).tmod (d:Int)=(((r*1000000000+x) % d:Nat):Int):=by
 rw[IntWalk.u64_in ((r:Int)*1000000000) ae,IntWalk.u64_in ((r:Int)*1000000000+(x:Int)) ae];have e:(r:Int)*1000000000+(x:Int)=((r*1000000000+x:Nat):Int):=ae;rw[e,← Int.ofNat_tdiv,← Int.ofNat_tmod];have hle:(r*1000000000+x) / d<=r*1000000000+x:=Nat.div_le_self _ _;generalize (r*1000000000+x) / d=q at *;exact⟨IntWalk.u64_in _ ae,rfl⟩
theorem jP{a b:Nat}(h:b<=a):0<=fR a b:=by
 unfold fR;rw[if_neg ae];split <;> omega
theorem cz.carry{W W':World}{v:Value}{n:Nat}(h:cz W v n)(hs:W.heap.size<=W'.heap.size)(hc:∀ (b o:Nat) (x:Int),W.cell? ⟨b,o,none⟩=some (.int .u64 x)->W'.cell? ⟨b,o,none⟩=some (.int .u64 x)):cz W' v n:=by
 obtain⟨l,⟨ad,cap,b,off,hv,h1,h2,h3,h4⟩,c,e⟩:=h;exact⟨l,⟨ad,cap,b,off,hv,h1,h2,fun h0=>⟨(h3 h0).1,Nat.lt_of_lt_of_le (h3 h0).2 hs⟩,fun i hi=>hc _ _ _ (h4 i hi)⟩,c,e⟩
theorem A5 {w W:World} {g r bc n:Nat} {vb:Value} {Q:List Value} {ρ:Int} (hS:eZ w g r (w.heap.size+1) bc n vb W Q ρ) {D:Nat} (hD:w.heap.size<=D) (hK:W.heap[D]?=some (.deferred (some []))) (cs:Array Value) (t:TypeId) {vq vr:Value} {x y:Nat}
    (mq:cz (W.alloc (.cells cs t)).drew vq x) (mr:cz (W.alloc (.cells cs t)).drew vr y) :
    ((W.alloc (.cells cs t)).setCell ⟨w.heap.size+1,0,none⟩ vq).drew.heap[D]?=some (.deferred (some [])) /\
    (((W.alloc (.cells cs t)).setCell ⟨w.heap.size+1,0,none⟩ vq).drew.putObj D (.deferred none)).cell? ⟨w.heap.size+1,0,none⟩=some vq /\
    Ext w (((W.alloc (.cells cs t)).setCell ⟨w.heap.size+1,0,none⟩ vq).drew.putObj D (.deferred none)) /\
    cz (((W.alloc (.cells cs t)).setCell ⟨w.heap.size+1,0,none⟩ vq).drew.putObj D (.deferred none)) vq x /\
    cz (((W.alloc (.cells cs t)).setCell ⟨w.heap.size+1,0,none⟩ vq).drew.putObj D (.deferred none)) vr y:=by
 have hlt:D<W.heap.size:=by
  rcases Nat.lt_or_ge D W.heap.size with h'|h'
  ·exact h'
  ·rw[Array.getElem?_eq_none h'] at hK;simp at hK
 have hne:D≠w.heap.size+1:=by
  intro e;rw[e,hS.q.out] at hK;simp at hK
 have bq:=(hS.q.alloc (.cells cs t)).drew;have hK2:((W.alloc (.cells cs t)).setCell ⟨w.heap.size+1,0,none⟩ vq).drew.heap[D]?=some (.deferred (some [])):=by
  show((W.alloc (.cells cs t)).setCell ⟨w.heap.size+1,0,none⟩ vq).heap[D]?=_;rw[Below.heap_setCell _ _ _ D hne];exact(Below.heap_alloc W _ D hlt).trans hK
 have hg:=grownBy_putObj' ((W.alloc (.cells cs t)).setCell ⟨w.heap.size+1,0,none⟩ vq).drew D (.deferred none);have hr:∀ r,some D=some r->∃ o:Obj,((W.alloc (.cells cs t)).setCell ⟨w.heap.size+1,0,none⟩ vq).drew.heap[r]?=some o/\o.isCells=false:=fun r e=>by cases e;exact⟨_,hK2,rfl⟩
 have kc:∀ (b o:Nat) (x:Int),(W.alloc (.cells cs t)).drew.cell? ⟨b,o,none⟩=some (.int .u64 x)->(((W.alloc (.cells cs t)).setCell ⟨w.heap.size+1,0,none⟩ vq).drew.putObj D (.deferred none)).cell? ⟨b,o,none⟩=some (.int .u64 x):=by
  intro b o z hz;refine cell_kept ?_ hg hr;have e:(⟨w.heap.size+1,0,none⟩:Addr)≠⟨b,o,none⟩:=by
   intro e;rw[← e,bq.cell 0 rfl] at hz;simp at hz
  exact(World.cell?_setCell_other _ _ _ _ e).trans hz
 have ks:(W.alloc (.cells cs t)).drew.heap.size<=(((W.alloc (.cells cs t)).setCell ⟨w.heap.size+1,0,none⟩ vq).drew.putObj D (.deferred none)).heap.size:=by
  have:=hg.size;have h2:((W.alloc (.cells cs t)).setCell ⟨w.heap.size+1,0,none⟩ vq).heap.size=(W.alloc (.cells cs t)).heap.size:=by simp
  exact Nat.le_trans (Nat.le_of_eq h2.symm) this
 refine⟨hK2,cell_kept ?_ hg hr,?_,mq.carry ks kc,mr.carry ks kc⟩
 ·exact World.cell?_setCell_same _ _ _ (bq.cell 0 rfl)
 ·exact(((hS.ext.alloc _).setCell (by simp) _).drew).grown hg (fun k e=>by cases e;exact hD)
set_option linter.unusedSimpArgs false in
set_option maxHeartbeats 4000000 in
theorem tb (a d:Nat) (va vb:Value) (w:World) (ha:cz w va a) (hb:cz w vb d) (hd:0<d) (hd1:d<1000000000) (fa:Fit a) (h:d<=a) :
    Calls prog 246 #[va,vb] w (j7 w (a / d) (a % d)):=by
 have HA:=aj ha;have HB:=aj hb;obtain⟨L,hL,cL,hLv⟩:=ha;have hL2:=fa.len cL hLv;obtain⟨M,hM,cM,hMv⟩:=hb;obtain rfl:M=[d]:=by
  refine Canon.unique af cM ⟨?_,?_⟩ (by rw[hMv,cS])
  ·intro x hx;simp at hx;omega
  ·simp;omega
 obtain⟨bb,ob,cb,rfl,h1b,hcb,hbb,hCb⟩:=hM.cells (by simp);obtain⟨ad,ca,ba,oa,rfl,h1a,hca,hba,hCa⟩:=hL;have hcb0:w.cell? ⟨bb,ob,none⟩=some (.int .u64 (d:Int)):=by simpa using hCb 0 (by simp)
 simp only[List.length_singleton] at *;obtain⟨n,hn⟩:∃ n,n=L.length:=⟨_,rfl⟩
 rw[← hn] at hL2 h1a hba hCa HA ⊢;have HN:=aj hn;have HLV:=aj hLv;have H1:=aj hba;have H2:=aj hCa;have BL:=aj cL.lt;have hcmp:=jP h;have hcmp':¬ fR a d<0:=ae;clear hn hLv hba hCa hM hCb cM hMv cL;obtain⟨i0,hi,hz0,hz1,hz2⟩:=info_parts iV;refine(callsIn_wide (n:=5)).1 ?_;refine callsIn_of_wp_marks func246 rfl trivial ?_ rfl;refine wpIn_wide.2 ?_;simp only[ntmps246,List.size_toArray,List.length_cons,List.length_nil,Nat.reduceAdd,Nat.reduceSub,Array.replicate_succ,Array.replicate_zero,List.push_toArray,List.append_toArray,List.nil_append,List.cons_append];have e1:Ext w ((w.alloc (.cells #[.slice (some ⟨bb,ob,none⟩) 1 cb] 214)).alloc (.cells #[.slice none 0 0] 214)):=((Ext.refl w).alloc _).alloc _;have b3:=(ax.new w #[.slice (some ⟨bb,ob,none⟩) 1 cb] 214).alloc (.cells #[.slice none 0 0] 214);have b4:=ax.new (w.alloc (.cells #[.slice (some ⟨bb,ob,none⟩) 1 cb] 214)) #[.slice none 0 0] 214;rw[World.size_alloc] at b4;go_wp2_with (first
  | (go_at_call 251;refine cto (dj a d _ _ _ (HA.o.ext e1) (HB.o.ext e1)) fun w1 e2=>?_;have b3':=b3.ext e2;have b4':=b4.ext e2;have c3:=b3'.cell 0 rfl;have c4:=b4'.cell 0 rfl;have f4:=b4'.free 0)
  | (at_make;refine wpList_make_full _ rfl _ _ 214 rfl w1.heap.size 245 i0 (.int .u64 0) 1 underlying214 hi hz0 hz1 _ _ _ _ n rfl rfl ae ae (by rw[hz2];omega) (by unfold maxLen;omega) (Nat.le_refl _) ?_;intro w2 hown2 hgrow2;have b3'':=b3'.grown hgrow2 (by simp);have b4'':=b4'.grown hgrow2 (by simp);have c3:=b3''.cell 0 rfl;have c4:=b4''.cell 0 rfl;have f4:=b4''.free 0;have s2:=hgrow2.size)
  | (go_at_call 240;refine(callsIn_wide.1 (iI Fence.wide 1 trivial rfl _ _ _ _)).mono ?_;rintro e w' ⟨rfl,rfl⟩))
 obtain⟨W3,hW3⟩:∃ W3,(((w2.setCell ⟨w.heap.size+1,0,none⟩ (.slice (some ⟨w1.heap.size,0,none⟩) n n)).alloc (.cells #[.int .u64 0] 245)).alloc (.cells #[.slice ad n ca] 214))=W3:=⟨_,rfl⟩
 rw[hW3];have sz1:w.heap.size+2<=w1.heap.size:=by have:=e2.size;simpa using this
 have sz2:w1.heap.size<w2.heap.size:=by
  rcases hown2.2 with⟨h',_⟩|⟨g',cap',cur,h',_,hh,_⟩
  ·simp at h'
  ·simp only[Value.slice.injEq,Option.some.injEq,Addr.mk.injEq,and_true,true_and] at h';rcases Nat.lt_or_ge g' w2.heap.size with h''|h''
   ·omega
   ·rw[Array.getElem?_eq_none h''] at hh;simp at hh
 have sz3:W3.heap.size=w2.heap.size+2:=by rw[← hW3];simp
 have e3:Ext w W3:=by
  rw[← hW3];exact((((e1.trans e2).grown hgrow2 (fun k e=>by cases e)).setCell (by simp) _).alloc _).alloc _
 have hbs:ax W3 (w2.heap.size+1) #[.slice ad n ca] 214:=by
  rw[← hW3];have:=ax.new ((w2.setCell ⟨w.heap.size+1,0,none⟩ (.slice (some ⟨w1.heap.size,0,none⟩) n n)).alloc (.cells #[.int .u64 0] 245)) #[.slice ad n ca] 214;simpa using this
 have hst:eZ w w1.heap.size w2.heap.size (w.heap.size+1) w.heap.size n (.slice (some ⟨bb,ob,none⟩) 1 cb) W3 ((List.replicate n 0).map fun(x:Nat)=>Value.int .u64 x) 0:=by
  rw[eA] at hown2;rw[← hW3];refine⟨((ownsRow_setCell_other hown2 (by simp[Value.ownBlock];omega) _).alloc _).alloc _,?_,((b4''.set 0 _).alloc _).alloc _,((b3''.other _ (by simp)).alloc _).alloc _,by rw[hW3];exact e3⟩;have:=(ax.new (w2.setCell ⟨w.heap.size+1,0,none⟩ (.slice (some ⟨w1.heap.size,0,none⟩) n n)) #[.int .u64 0] 245).alloc (.cells #[.slice ad n ca] 214);simpa using this
 clear hW3 b3 b3' b3'' b4 b4' b4'' c3 c4 f4 hown2 hgrow2 e1;refine(wpIn_wide (n:=5)).1 ?_;refine wpIn_rangeFunc_ownG (α:=Fin n) rfl af (gf:=271) (lb:=#[.pointer (some ⟨w2.heap.size+1,0,none⟩)]) rfl trivial (enters_of func271 ag rfl)
  (jv Fence.wide 4 trivial rfl af (w2.heap.size+1) w.heap.size ba oa ca ad L n ae W3 ae ae H1.o (hbs.cell 0 rfl) (fun j hj=>(e3.cell (p:=⟨ba,oa+j,none⟩) (H1.o ae).2).trans (H2.o j hj)))
  cr.trans (cr.put (w:=W3) ae ae) (Below.refl _ _) (fun _=>rfl)
  (fun pre W=>∃ (Q:List Value) (ρ:Int),eZ w w1.heap.size w2.heap.size (w.heap.size+1) w.heap.size n (.slice (some ⟨bb,ob,none⟩) 1 cb) W Q ρ /\
   (∀ k,k<=n->pre=bk n k->∃ (qs:List Nat) (r:Nat),Q=qs.map (fun(x:Nat)=>Value.int .u64 x)/\ρ=(r:Int)/\dH 1000000000 d L qs (n-k) r))
  (fun _ _ _=>False)
  (fun pre A B row hs hg hr=>by
   obtain⟨Q,ρ,h1,h2⟩:=hs;exact⟨Q,ρ,h1.ke hg (fun r e=>⟨by have:=(hr r e).1;omega,(hr r e).2⟩),h2⟩)
  (fun _ _ _ _ _ hs _ _=>hs)
  ⟨_,0,hst,fun k hk e=>⟨List.replicate n 0,0,rfl,rfl,by
   have hk0:k=0:=by have:=congrArg List.length e;rw[iY n k hk] at this;simpa using this.symm
   subst hk0;rw[Nat.sub_zero,HN.o];exact dH.start af hd⟩⟩
  (fun x=>{ tmps:=#[.slice ad n ca,.slice (some ⟨bb,ob,none⟩) 1 cb,undef,.pointer (some ⟨w.heap.size,0,none⟩),.pointer (some ⟨w.heap.size+1,0,none⟩),.slice none 0 0,.pointer (some ⟨w2.heap.size,0,none⟩),.int .i64 (x.val:Int),.int .u64 ((L[x.val]?.getD 0:Nat):Int),undef,undef,undef,undef,undef,.slice ad n ca,.slice (some ⟨bb,ob,none⟩) 1 cb,.int .i64 (fR a d),.bool (decide (fR a d<0)),undef,.slice (some ⟨bb,ob,none⟩) 1 cb,.int .i64 1,.bool true,.slice ad n ca,.int .i64 (n:Int),.slice (some ⟨w1.heap.size,0,none⟩) n n,.slice ad n ca,.func (.func 271) #[] #[.pointer (some ⟨w2.heap.size+1,0,none⟩)],.int .i64 (x.val:Int),.int .u64 ((L[x.val]?.getD 0:Nat):Int),undef,undef,undef,undef,undef,undef,undef,undef,undef,undef,undef,undef,undef,undef,undef,undef,undef,undef,undef,undef,undef,undef,undef,undef,undef,undef,undef,undef,undef,undef,undef,undef,undef,undef,undef,undef,undef,undef,undef,undef,undef,undef,undef,undef,undef,undef,undef,undef,undef,undef,undef,undef,undef,undef,undef,undef,undef,undef,undef,undef,undef,undef,undef,undef,undef,undef,undef,undef,undef,undef,undef,undef,undef,undef,undef,undef,undef,undef,undef,undef,undef,undef,undef,undef,undef,undef,undef,undef,undef,undef,undef,undef,undef,undef,undef,undef,undef,undef,undef,undef,undef,undef,undef,undef,undef,undef,undef,undef,undef,undef,undef,undef,undef,undef,undef,undef,undef],defers:=[] }) ?assign ?body ?done ?stop
 case assign =>
  intro l x W K hK;gi_wp2;exact hK
 case body =>
  rintro l pre x W ⟨Q,ρ,hS,hQ⟩ hlen;obtain⟨i,hin⟩:=x;have c3:=hS.b.cell 0 rfl;have c4:=hS.q.cell 0 rfl;have c6:=hS.rest.cell 0 rfl;have f6:=hS.rest.free 0;have cb0:=hS.ext.keeps hcb0;obtain⟨u,hu⟩:∃ u,W.cell? ⟨w1.heap.size,i,none⟩=some u:=⟨_,(hS.own.cellAt i ae).trans (List.getElem?_eq_getElem (by have:=hS.own.1;omega))⟩
  have fq:=hS.own.frozenAt i;have HQ:=aj hQ;have HS:=aj hS;clear hQ hS;have hne:¬ (d:Int)=0:=ae;have hne':¬ d=0:=ae;gi_wp2;obtain⟨σ,hσ⟩:∃ σ,σ=IntKind.u64.wrap (IntKind.u64.wrap (ρ*1000000000)+((L[i]?.getD 0:Nat):Int)):=⟨_,rfl⟩
  rw[← hσ];have hS1:=HS.o.tI σ ae ae ae ae;have hS2:=hS1.store i (.int .u64 (IntKind.u64.wrap (σ.tdiv d))) ae ae ae ae;have hS3:=hS2.tI (σ.tmod d) ae ae ae ae;have c3':=hS2.b.cell 0 rfl;have c4':=hS2.q.cell 0 rfl;have c6':=hS2.rest.cell 0 rfl;have f6':=hS2.rest.free 0;have cb':=hS2.ext.keeps hcb0;obtain⟨u',hu'⟩:∃ u,(W.setCell ⟨w2.heap.size,0,none⟩ (.int .u64 σ)).cell? ⟨w1.heap.size,i,none⟩=some u:=⟨_,(hS1.own.cellAt i ae).trans (List.getElem?_eq_getElem (by have:=hS1.own.1;omega))⟩
  have fq':=hS1.own.frozenAt i;have hS0:=hS1;have c3a:=hS1.b.cell 0 rfl;have c4a:=hS1.q.cell 0 rfl;have c6a:=hS1.rest.cell 0 rfl;have f6a:=hS1.rest.free 0;have cba:=hS1.ext.keeps hcb0;have c3'':=hS3.b.cell 0 rfl;have c4'':=hS3.q.cell 0 rfl;have cb'':=hS3.ext.keeps hcb0;clear c3 c4 c6 f6 cb0 hu fq u;refine j9 (fun W'=>W'.cell? ⟨w.heap.size,0,none⟩=some (.slice (some ⟨bb,ob,none⟩) 1 cb)/\W'.cell? ⟨w.heap.size+1,0,none⟩=some (.slice (some ⟨w1.heap.size,0,none⟩) n n) /\
   W'.cell? ⟨bb,ob,none⟩=some (.int .u64 (d:Int))/\True) ag ?_ ag ⟨c3a,c4a,cba,trivial⟩ (fun hHeld=>?_)
  ·exact fun⟨_,_,h⟩=>h
  have HS0:=aj hS0;have HS1:=aj hS1;have HS2:=aj hS2;have HS3:=aj hS3;have HSI:=aj hσ;clear hS0 hS1 hS2 hS3 hσ
  have fin:KeepsFrom W3.heap.size W (((W.setCell ⟨w2.heap.size,0,none⟩ (.int .u64 σ)).setCell ⟨w1.heap.size,i,none⟩ (.int .u64 (IntKind.u64.wrap (σ.tdiv d)))).setCell ⟨w2.heap.size,0,none⟩ (.int .u64 (σ.tmod d))).drew /\
      cr w.heap.size (w2.heap.size+1) W (((W.setCell ⟨w2.heap.size,0,none⟩ (.int .u64 σ)).setCell ⟨w1.heap.size,i,none⟩ (.int .u64 (IntKind.u64.wrap (σ.tdiv d)))).setCell ⟨w2.heap.size,0,none⟩ (.int .u64 (σ.tmod d))).drew /\
      ∃ (Q:List Value) (ρ:Int),eZ w w1.heap.size w2.heap.size (w.heap.size+1) w.heap.size n (.slice (some ⟨bb,ob,none⟩) 1 cb) (((W.setCell ⟨w2.heap.size,0,none⟩ (.int .u64 σ)).setCell ⟨w1.heap.size,i,none⟩ (.int .u64 (IntKind.u64.wrap (σ.tdiv d)))).setCell ⟨w2.heap.size,0,none⟩ (.int .u64 (σ.tmod d))).drew Q ρ /\
       (∀ k,k<=n->pre ++ [⟨i,hin⟩]=bk n k->∃ (qs:List Nat) (r:Nat),Q=qs.map (fun(x:Nat)=>Value.int .u64 x)/\ρ=(r:Int)/\dH 1000000000 d L qs (n-k) r) :=
   ⟨((((KeepsOthers.setCell _ _ _).trans (KeepsOthers.setCell _ _ _)).trans (KeepsOthers.setCell _ _ _)).trans (KeepsOthers.drew _)).from _,
    ((((cr.refl _ _ _).setCell (by show w.heap.size<=w2.heap.size;omega) (by show w2.heap.size+1≠w2.heap.size;omega) _).setCell (by show w.heap.size<=w1.heap.size;omega) (by show w2.heap.size+1≠w1.heap.size;omega) _).setCell (by show w.heap.size<=w2.heap.size;omega) (by show w2.heap.size+1≠w2.heap.size;omega) _).drew,
    _,_,HS3.o.drew,fun k hk e=>by
     obtain⟨k',rfl,rfl,hik⟩:=j4 hk e;obtain⟨qs,r,rfl,rfl,hinv⟩:=HQ.o k' ae rfl;have hx:=aK (B:=1000000000) af BL.out i;have hr:=hinv.rem;have hstep:=(show dH 1000000000 d L qs (i+1) r by rw[show i+1=n-k' by omega];exact hinv).step (by rw[← HN.o];exact hin) BL.out hd;obtain⟨e1,e2⟩:=wi hd1 hr hx;rw[HSI.o,e1,e2];refine⟨_,_,?_,rfl,by rw[show n-(k'+1)=i by omega];exact hstep⟩;rw[List.map_set]⟩
  -- GEN-BEGIN
  refine wpAnyH_take (i:=0) (v:=.slice (some ⟨w1.heap.size,0,none⟩) n n) rfl ag ag ag (fun _ _ _ h=>h) (Or.inl ⟨by rfl,fun w hSw=>by obtain⟨k3,k4,kb,_⟩:=hSw;go_simp⟩) hHeld ?_
  try simp only[Act.put,List.setIfInBounds_toArray,List.set_cons_zero,List.set_cons_succ]
  refine wpAnyH_take (i:=1) (v:=.int .i64 (i:Int)) rfl ag ag ag (fun _ _ _ h=>h) (Or.inl ⟨by rfl,fun w hSw=>by obtain⟨k3,k4,kb,_⟩:=hSw;go_simp⟩) hHeld ?_
  try simp only[Act.put,List.setIfInBounds_toArray,List.set_cons_zero,List.set_cons_succ]
  refine wpAnyH_take (i:=3) (v:=.slice (some ⟨bb,ob,none⟩) 1 cb) rfl ag ag ag (fun _ _ _ h=>h) (Or.inl ⟨by rfl,fun w hSw=>by obtain⟨k3,k4,kb,_⟩:=hSw;go_simp⟩) hHeld ?_
  try simp only[Act.put,List.setIfInBounds_toArray,List.set_cons_zero,List.set_cons_succ]
  refine wpAnyH_take (i:=4) (v:=.pointer (some ⟨bb,ob,none⟩)) rfl ag ag ag (fun _ _ _ h=>h) (Or.inl ⟨by rfl,fun w hSw=>by obtain⟨k3,k4,kb,_⟩:=hSw;go_simp⟩) hHeld ?_
  try simp only[Act.put,List.setIfInBounds_toArray,List.set_cons_zero,List.set_cons_succ]
  refine wpAnyH_take (i:=5) (v:=.int .u64 (d:Int)) rfl ag ag ag (fun _ _ _ h=>h) (Or.inl ⟨by rfl,fun w hSw=>by obtain⟨k3,k4,kb,_⟩:=hSw;go_simp⟩) hHeld ?_
  try simp only[Act.put,List.setIfInBounds_toArray,List.set_cons_zero,List.set_cons_succ]
  refine wpAnyH_take (i:=8) (v:=.slice (some ⟨bb,ob,none⟩) 1 cb) rfl ag ag ag (fun _ _ _ h=>h) (Or.inl ⟨by rfl,fun w hSw=>by obtain⟨k3,k4,kb,_⟩:=hSw;go_simp⟩) hHeld ?_
  try simp only[Act.put,List.setIfInBounds_toArray,List.set_cons_zero,List.set_cons_succ]
  refine wpAnyH_take (i:=9) (v:=.pointer (some ⟨bb,ob,none⟩)) rfl ag ag ag (fun _ _ _ h=>h) (Or.inl ⟨by rfl,fun w hSw=>by obtain⟨k3,k4,kb,_⟩:=hSw;go_simp⟩) hHeld ?_
  try simp only[Act.put,List.setIfInBounds_toArray,List.set_cons_zero,List.set_cons_succ]
  refine wpAnyH_take (i:=10) (v:=.int .u64 (d:Int)) rfl ag ag ag (fun _ _ _ h=>h) (Or.inl ⟨by rfl,fun w hSw=>by obtain⟨k3,k4,kb,_⟩:=hSw;go_simp⟩) hHeld ?_
  try simp only[Act.put,List.setIfInBounds_toArray,List.set_cons_zero,List.set_cons_succ]
  refine wpAnyH_ready (rs:=[2,7]) ag (by simp) ?_;refine AllReadyH.cons rfl (fun K hK=>?_) (AllReadyH.cons rfl (fun K hK=>?_) AllReadyH.nil)
  ·skip
   go_simp;refine hK.out _ _ ⟨c3a,c4a,cba,trivial⟩ (fun hHeld=>?_);clear hK K
   try simp only[Act.put,List.setIfInBounds_toArray,List.set_cons_zero,List.set_cons_succ]
   refine wpAnyH_take (i:=6) (v:=.int .u64 (IntKind.u64.wrap (σ.tdiv d))) rfl ag ag ag (fun _ _ _ h=>h) (Or.inl ⟨by rfl,fun w hSw=>by obtain⟨k3,k4,kb,_⟩:=hSw;go_simp⟩) hHeld ?_
   try simp only[Act.put,List.setIfInBounds_toArray,List.set_cons_zero,List.set_cons_succ]
   refine wpAnyH_take (i:=12) (v:=.pointer (some ⟨w1.heap.size,i,none⟩)) rfl ag ag ag (fun _ _ _ h=>h) (Or.inl ⟨by rfl,fun w hSw=>by obtain⟨k3,k4,kb,_⟩:=hSw;go_simp⟩) hHeld ?_
   try simp only[Act.put,List.setIfInBounds_toArray,List.set_cons_zero,List.set_cons_succ]
   refine wpAnyH_ready (rs:=[7,13]) ag (by simp) ?_;refine AllReadyH.cons rfl (fun K hK=>?_) (AllReadyH.cons rfl (fun K hK=>?_) AllReadyH.nil)
   ·skip
    go_simp;refine hK.out _ _ ⟨c3a,c4a,cba,trivial⟩ (fun hHeld=>?_);clear hK K
    try simp only[Act.put,List.setIfInBounds_toArray,List.set_cons_zero,List.set_cons_succ]
    refine wpAnyH_take (i:=11) (v:=.int .u64 (σ.tmod d)) rfl ag ag ag (fun _ _ _ h=>h) (Or.inl ⟨by rfl,fun w hSw=>by obtain⟨k3,k4,kb,_⟩:=hSw;go_simp⟩) hHeld ?_
    try simp only[Act.put,List.setIfInBounds_toArray,List.set_cons_zero,List.set_cons_succ]
    refine wpAnyH_ready (rs:=[13]) ag (by simp) ?_;refine AllReadyH.cons rfl (fun K hK=>?_) AllReadyH.nil;go_simp;refine hK.out _ _ ⟨c3',c4',cb',trivial⟩ (fun hHeld=>?_);clear hK K
    try simp only[Act.put,List.setIfInBounds_toArray,List.set_cons_zero,List.set_cons_succ]
    refine wpAnyH_ready (rs:=[14]) ag (by simp) ?_;refine AllReadyH.cons rfl (fun K hK=>?_) AllReadyH.nil;go_simp;refine hK.out _ _ ⟨c3'',c4'',cb'',trivial⟩ (fun hHeld=>?_);clear hK K
    try simp only[Act.put,List.setIfInBounds_toArray,List.set_cons_zero,List.set_cons_succ]
    refine wpAnyH_done ag ?_ _;gi_wp2;exact fin
   ·skip
    go_simp;refine hK.out _ _ ⟨c3',c4',cb',trivial⟩ (fun hHeld=>?_);clear hK K
    try simp only[Act.put,List.setIfInBounds_toArray,List.set_cons_zero,List.set_cons_succ]
    refine wpAnyH_ready (rs:=[7]) ag (by simp) ?_;refine AllReadyH.cons rfl (fun K hK=>?_) AllReadyH.nil;go_simp;refine hK.out _ _ ⟨c3',c4',cb',trivial⟩ (fun hHeld=>?_);clear hK K
    try simp only[Act.put,List.setIfInBounds_toArray,List.set_cons_zero,List.set_cons_succ]
    refine wpAnyH_take (i:=11) (v:=.int .u64 (σ.tmod d)) rfl ag ag ag (fun _ _ _ h=>h) (Or.inl ⟨by rfl,fun w hSw=>by obtain⟨k3,k4,kb,_⟩:=hSw;go_simp⟩) hHeld ?_
    try simp only[Act.put,List.setIfInBounds_toArray,List.set_cons_zero,List.set_cons_succ]
    refine wpAnyH_ready (rs:=[14]) ag (by simp) ?_;refine AllReadyH.cons rfl (fun K hK=>?_) AllReadyH.nil;go_simp;refine hK.out _ _ ⟨c3'',c4'',cb'',trivial⟩ (fun hHeld=>?_);clear hK K
    try simp only[Act.put,List.setIfInBounds_toArray,List.set_cons_zero,List.set_cons_succ]
    refine wpAnyH_done ag ?_ _;gi_wp2;exact fin
  ·skip
   go_simp;refine hK.out _ _ ⟨c3a,c4a,cba,trivial⟩ (fun hHeld=>?_);clear hK K
   try simp only[Act.put,List.setIfInBounds_toArray,List.set_cons_zero,List.set_cons_succ]
   refine wpAnyH_take (i:=11) (v:=.int .u64 (σ.tmod d)) rfl ag ag ag (fun _ _ _ h=>h) (Or.inl ⟨by rfl,fun w hSw=>by obtain⟨k3,k4,kb,_⟩:=hSw;go_simp⟩) hHeld ?_
   try simp only[Act.put,List.setIfInBounds_toArray,List.set_cons_zero,List.set_cons_succ]
   refine wpAnyH_ready (rs:=[2]) ag (by simp) ?_;refine AllReadyH.cons rfl (fun K hK=>?_) AllReadyH.nil;go_simp;refine hK.out _ _ ⟨c3a,c4a,cba,trivial⟩ (fun hHeld=>?_);clear hK K
   try simp only[Act.put,List.setIfInBounds_toArray,List.set_cons_zero,List.set_cons_succ]
   refine wpAnyH_take (i:=6) (v:=.int .u64 (IntKind.u64.wrap (σ.tdiv d))) rfl ag ag ag (fun _ _ _ h=>h) (Or.inl ⟨by rfl,fun w hSw=>by obtain⟨k3,k4,kb,_⟩:=hSw;go_simp⟩) hHeld ?_
   try simp only[Act.put,List.setIfInBounds_toArray,List.set_cons_zero,List.set_cons_succ]
   refine wpAnyH_take (i:=12) (v:=.pointer (some ⟨w1.heap.size,i,none⟩)) rfl ag ag ag (fun _ _ _ h=>h) (Or.inl ⟨by rfl,fun w hSw=>by obtain⟨k3,k4,kb,_⟩:=hSw;go_simp⟩) hHeld ?_
   try simp only[Act.put,List.setIfInBounds_toArray,List.set_cons_zero,List.set_cons_succ]
   refine wpAnyH_ready (rs:=[13]) ag (by simp) ?_;refine AllReadyH.cons rfl (fun K hK=>?_) AllReadyH.nil;go_simp;refine hK.out _ _ ⟨c3',c4',cb',trivial⟩ (fun hHeld=>?_);clear hK K
   try simp only[Act.put,List.setIfInBounds_toArray,List.set_cons_zero,List.set_cons_succ]
   refine wpAnyH_ready (rs:=[14]) ag (by simp) ?_;refine AllReadyH.cons rfl (fun K hK=>?_) AllReadyH.nil;go_simp;refine hK.out _ _ ⟨c3'',c4'',cb'',trivial⟩ (fun hHeld=>?_);clear hK K
   try simp only[Act.put,List.setIfInBounds_toArray,List.set_cons_zero,List.set_cons_succ]
   refine wpAnyH_done ag ?_ _;gi_wp2;exact fin
  -- GEN-END
 case done =>
  rintro D ys W hD rfl ⟨Q,ρ,hS,hQ⟩ hK;obtain⟨qs,r,rfl,rfl,hinv⟩:=hQ n (Nat.le_refl _) rfl;clear hQ;have c4:=hS.q.cell 0 rfl;have c6:=hS.rest.cell 0 rfl;have f4:=hS.q.free 0;rw[Nat.sub_self] at hinv;obtain⟨eq,er⟩:=hinv.done;rw[HLV.o] at eq er;have hq:=Holds.bX hS.own;have hr1:aC 1000000000 [r]:=by intro x hx;simp at hx;have:=hinv.rem;omega
  have EQ:=aj eq;have ER:=aj er;have HQ:=aj hq;have HS:=aj hS;clear hS hq eq er;go_wp2;have b4a:=(HS.o.q.alloc (.cells #[.int .u64 (r:Int)] 245)).drew;have c4a:=b4a.cell 0 rfl;have f4a:=b4a.free 0;have d1:Ext W W.drew:=(Ext.refl W).drew;have d2:∀ o,Ext W (W.alloc o).drew:=fun o=>((Ext.refl W).alloc o).drew
  first|(go_region_with (first
   | (go_at_call 238;(with_reducible refine(ik qs (.slice (some ⟨w1.heap.size,0,none⟩) n n) _ (by first|exact HQ.o.ext d1|exact HQ.o.ext (d2 _)) hinv.lt).mono ?_);rintro e wq ⟨vq,rfl,rfl,mq⟩;obtain⟨qa,ql,qc,rfl⟩:=mq.slice)
   | (go_at_call 238;(with_reducible refine(ik [r] _ _ (by first|exact(Holds.one W .u64 r 245).ext ((Ext.refl _).drew)|exact(Holds.one (W.setCell _ _) .u64 r 245).ext ((Ext.refl _).drew)) hr1).mono ?_);rintro e wr ⟨vr,rfl,rfl,mr⟩;obtain⟨ra,rl,rc,rfl⟩:=mr.slice)))|fail "region"
  all_goals go_wp2
  all_goals
   have mq':cz (W.alloc (.cells #[.int .u64 (r:Int)] 245)).drew (.slice qa ql qc) (a / d):=by
    rw[← EQ.out]
    first|exact mq|exact mq.ext (((Ext.refl W.drew).alloc _).trans (by exact Ext.refl _))
   have mr':cz (W.alloc (.cells #[.int .u64 (r:Int)] 245)).drew (.slice ra rl rc) (a % d):=by
    rw[← ER.out,← cS 1000000000 r];exact mr
   obtain⟨hK2,hc5,he,m1,m2⟩:=A5 HS.o (by have:=e3.size;omega) hK _ _ mq' mr';refine⟨by simp,.inl ⟨_,_,rfl,run_takeDeferred hK2,?_⟩⟩;exact⟨.tuple #[.slice qa ql qc,.slice ra rl rc],by simp[results,results246,go_sem,hc5],_,_,rfl,he,m1,m2⟩
 case stop =>
  rintro D c pre W _ _ h _;exact h.elim
end Go.Proofs.YtmahadmefplbnaaGreatDoor
