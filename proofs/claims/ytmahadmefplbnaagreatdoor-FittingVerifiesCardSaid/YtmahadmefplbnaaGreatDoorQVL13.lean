/- Part 13. -/
import Derived.Test.YtmahadmefplbnaaGreatDoorQVLB
import Derived.Test.YtmahadmefplbnaaGreatDoorQVL11
import Derived.Test.YtmahadmefplbnaaGreatDoorQVL12
import Derived.RangeFuncWrites
set_option maxRecDepth 100000
set_option maxHeartbeats 2000000
open Go.Proofs.Tryz
namespace Go.Proofs.YtmahadmefplbnaaGreatDoor
open Go Go.RowKit Go.Shelf
attribute [local go_sem] Oper.semAt_some
def sB(w:World)(q r:Nat)(e:Ending)(w':World):Prop :=
 ∃ vq vr,e = .returned (.tuple #[vq,vr])/\Ext w w'/\eV w' vq q/\eV w' vr r
theorem eV.zero(w:World):eV w (.slice none 0 0) 0:=⟨[],Holds.nil _ _,Canon.nil _,rfl⟩
theorem Holds.one(W:World)(k:IntKind)(x:Nat)(t:TypeId):Holds k (W.alloc (.cells #[.int k x] t)) (.slice (Option.some ⟨W.heap.size,0,none⟩) 1 1) [x]:=by
 have:=ay.new W #[.int k x] t;refine Holds.some rfl ae ae this.lt (fun i hi=>?_);have hi:i=0:=by simpa using hi
 subst hi;exact this.cell 0 rfl
theorem eV.slice{w:World}{v:Value}{n:Nat}(h:eV w v n):∃ ad len cap,v = .slice ad len cap:=by
 obtain⟨l,⟨ad,cap,b,off,hv,_⟩,_⟩:=h;exact⟨ad,_,cap,hv⟩
theorem zq (a b:Nat) (va vb:Value) (w:World) (ha:eV w va a) (hb:eV w vb b) (h:a<b) :
    Calls prog 246 #[va,vb] w (sB w 0 a):=by
 obtain⟨ad,la,ca,rfl⟩:=ha.slice;obtain⟨bd,lb,cb,rfl⟩:=hb.slice;have SU:=pn h;have HC:=ai SU;clear SU;go_enter func246,ntmps246;have e1:Ext w ((w.alloc (.cells #[.slice bd lb cb] 214)).alloc (.cells #[.slice none 0 0] 214)):=((Ext.refl w).alloc _).alloc _;have b3:=(ay.new w #[.slice bd lb cb] 214).alloc (.cells #[.slice none 0 0] 214);have b4:=ay.new (w.alloc (.cells #[.slice bd lb cb] 214)) #[.slice none 0 0] 214;rw[World.size_alloc] at b4;go_wp2_with (go_at_call 251;refine cto (fW a b _ _ _ (ha.ext e1) (hb.ext e1)) fun w1 e2=>?_;rw[HC.o];have To:=b3.ext e2;have Lt:=b4.ext e2;have c3:=To.cell 0 rfl;have c4:=Lt.cell 0 rfl;have f4:=Lt.free 0);have c5:=(Lt.set 0 (.slice none 0 0)).cell 0 rfl;have ez:Ext w (w1.setCell ⟨w.heap.size+1,0,none⟩ (.slice none 0 0)):=(e1.trans e2).setCell (by simp) _;exact bodyPost_ret (v:=.tuple #[.slice none 0 0,.slice ad la ca]) (by simp[results,results246,go_sem,c5]) rfl ⟨_,_,rfl,ez,eV.zero _,ha.ext ez⟩
theorem ay.sI{A B:World}{row:Option Nat}{k:Nat}{cs:Array Value}{t:TypeId}(h:ay A k cs t)(hg:A.grownBy B row)(hr:∀ r,row=some r->∃ o:Obj,A.heap[r]?=some o/\o.isCells=false):ay B k cs t :=
 h.grown hg (fun e=>by
  obtain⟨o,ho,hc⟩:=hr k e.symm;rw[h.out] at ho;cases ho;simp[Obj.isCells] at hc)
theorem KE {A B:World} {row:Option Nat} {base e n g cap:Nat} {xs:List Value} (h:A.ownsRow base e 1 (.slice (some ⟨g,0,none⟩) n cap) n xs) (hg:A.grownBy B row) (hr:∀ r,row=some r->∃ o:Obj,A.heap[r]?=some o/\o.isCells=false) :
    B.ownsRow base e 1 (.slice (some ⟨g,0,none⟩) n cap) n xs:=by
 refine h.kept hg (Or.inr ?_);intro e';obtain⟨o,ho,hc⟩:=hr g e'.symm;rcases h.2 with⟨h',_⟩|⟨g',Lq,cur,h',_,hh,_⟩
 ·simp at h'
 ·simp only[Value.slice.injEq,Option.some.injEq,Addr.mk.injEq,and_true,true_and] at h';rw[← h'.1,ho] at hh;cases hh;simp[Obj.isCells] at hc
structure kh(w:World)(g r qc bc n:Nat)(vb:Value)(W:World)(Q:List Value)(ρ:Int):Prop where
 own:W.ownsRow g 245 1 (.slice (some ⟨g,0,none⟩) n n) n Q
 rest:ay W r #[.int .u64 ρ] 245
 q:ay W qc #[.slice (some ⟨g,0,none⟩) n n] 214
 b:ay W bc #[vb] 214
 ext:Ext w W
theorem kh.sI {w:World} {g r qc bc n:Nat} {vb:Value} {A B:World} {Q:List Value} {ρ:Int} {row:Option Nat} (h:kh w g r qc bc n vb A Q ρ) (hg:A.grownBy B row) (hr:∀ r,row=some r->w.heap.size<=r/\∃ o:Obj,A.heap[r]?=some o/\o.isCells=false) :
    kh w g r qc bc n vb B Q ρ :=
 ⟨KE h.own hg (fun r e=>(hr r e).2),h.rest.sI hg (fun r e=>(hr r e).2),h.q.sI hg (fun r e=>(hr r e).2),h.b.sI hg (fun r e=>(hr r e).2),h.ext.grown hg (fun k e=>(hr k e).1)⟩
theorem kh.store {w:World} {g r qc bc n:Nat} {vb:Value} {A:World} {Q:List Value} {ρ:Int} (h:kh w g r qc bc n vb A Q ρ) (i:Nat) (u:Value) (hw:w.heap.size<=g) (h1:r≠g) (h2:qc≠g) (h3:bc≠g) :
    kh w g r qc bc n vb (A.setCell ⟨g,i,none⟩ u) (Q.set i u) ρ :=
 ⟨(h.own.stored i u).1,h.rest.other _ h1,h.q.other _ h2,h.b.other _ h3,h.ext.setCell hw _⟩
theorem kh.Ix {w:World} {g r qc bc n:Nat} {vb:Value} {A:World} {Q:List Value} {ρ:Int} (h:kh w g r qc bc n vb A Q ρ) (σ:Int) (hw:w.heap.size<=r) (h1:g≠r) (h2:qc≠r) (h3:bc≠r) :
    kh w g r qc bc n vb (A.setCell ⟨r,0,none⟩ (.int .u64 σ)) Q σ :=
 ⟨ownsRow_setCell_other h.own (by simp[Value.ownBlock];exact h1) _,h.rest.set 0 _,h.q.other _ h2,h.b.other _ h3,h.ext.setCell hw _⟩
theorem kh.drew{w:World}{g r qc bc n:Nat}{vb:Value}{A:World}{Q:List Value}{ρ:Int}(h:kh w g r qc bc n vb A Q ρ):kh w g r qc bc n vb A.drew Q ρ :=
 ⟨h.own.drew,h.rest.drew,h.q.drew,h.b.drew,h.ext.drew⟩
theorem sk{n k i:Nat}{h:i<n}{pre:List (Fin n)}(hk:k<=n)(e:pre ++ [⟨i,h⟩]=bk n k):∃ k',k=k'+1/\pre=bk n k'/\i=n-1-k':=by
 cases k with
 | zero=>simp[bk] at e
 | succ k' =>
  rw[uL n k' _ rfl ae] at e;obtain⟨e1,e2⟩:=List.append_inj' e rfl;simp only[List.cons.injEq,Fin.mk.injEq,and_true] at e2;exact⟨k',rfl,e1,e2⟩
theorem Ll {d r x:Nat} (hd1:d<1000000000) (hr:r<d) (hx:x<1000000000) :
    IntKind.u64.wrap ((IntKind.u64.wrap (IntKind.u64.wrap ((r:Int)*1000000000)+(x:Int))).tdiv (d:Int))=(((r*1000000000+x) / d:Nat):Int) /\
    (IntKind.u64.wrap (IntKind.u64.wrap ((r:Int)*1000000000)+(x:Int))).tmod (d:Int)=(((r*1000000000+x) % d:Nat):Int):=by
 rw[IntWalk.u64_in ((r:Int)*1000000000) ae,IntWalk.u64_in ((r:Int)*1000000000+(x:Int)) ae];have e:(r:Int)*1000000000+(x:Int)=((r*1000000000+x:Nat):Int):=ae;rw[e,← Int.ofNat_tdiv,← Int.ofNat_tmod];have hle:(r*1000000000+x) / d<=r*1000000000+x:=Nat.div_le_self _ _;generalize (r*1000000000+x) / d=q at *;exact⟨IntWalk.u64_in _ ae,rfl⟩
theorem rE{a b:Nat}(h:b<=a):0<=jy a b:=by
 unfold jy;rw[if_neg ae];split <;> omega
theorem eV.carry{W W':World}{v:Value}{n:Nat}(h:eV W v n)(hs:W.heap.size<=W'.heap.size)(hc:∀ (b o:Nat) (x:Int),W.cell? ⟨b,o,none⟩=some (.int .u64 x)->W'.cell? ⟨b,o,none⟩=some (.int .u64 x)):eV W' v n:=by
 obtain⟨l,⟨ad,cap,b,off,hv,h1,h2,h3,h4⟩,c,e⟩:=h;exact⟨l,⟨ad,cap,b,off,hv,h1,h2,fun h0=>⟨(h3 h0).1,Nat.lt_of_lt_of_le (h3 h0).2 hs⟩,fun i hi=>hc _ _ _ (h4 i hi)⟩,c,e⟩
theorem Tg {w W:World} {g r bc n:Nat} {vb:Value} {Q:List Value} {ρ:Int} (hS:kh w g r (w.heap.size+1) bc n vb W Q ρ) {D:Nat} (hD:w.heap.size<=D) (hK:W.heap[D]?=some (.deferred (some []))) (cs:Array Value) (t:TypeId) {vq vr:Value} {x y:Nat}
    (mq:eV (W.alloc (.cells cs t)).drew vq x) (mr:eV (W.alloc (.cells cs t)).drew vr y) :
    ((W.alloc (.cells cs t)).setCell ⟨w.heap.size+1,0,none⟩ vq).drew.heap[D]?=some (.deferred (some [])) /\
    (((W.alloc (.cells cs t)).setCell ⟨w.heap.size+1,0,none⟩ vq).drew.putObj D (.deferred none)).cell? ⟨w.heap.size+1,0,none⟩=some vq /\
    Ext w (((W.alloc (.cells cs t)).setCell ⟨w.heap.size+1,0,none⟩ vq).drew.putObj D (.deferred none)) /\
    eV (((W.alloc (.cells cs t)).setCell ⟨w.heap.size+1,0,none⟩ vq).drew.putObj D (.deferred none)) vq x /\
    eV (((W.alloc (.cells cs t)).setCell ⟨w.heap.size+1,0,none⟩ vq).drew.putObj D (.deferred none)) vr y:=by
 have aP:D<W.heap.size:=by
  rcases Nat.lt_or_ge D W.heap.size with h'|h'
  ·exact h'
  ·rw[Array.getElem?_eq_none h'] at hK;simp at hK
 have c8:D≠w.heap.size+1:=by
  intro e;rw[e,hS.q.out] at hK;simp at hK
 have bq:=(hS.q.alloc (.cells cs t)).drew;have Ux:((W.alloc (.cells cs t)).setCell ⟨w.heap.size+1,0,none⟩ vq).drew.heap[D]?=some (.deferred (some [])):=by
  show((W.alloc (.cells cs t)).setCell ⟨w.heap.size+1,0,none⟩ vq).heap[D]?=_;rw[Below.heap_setCell _ _ _ D c8];exact(Below.heap_alloc W _ D aP).trans hK
 have hg:=grownBy_putObj' ((W.alloc (.cells cs t)).setCell ⟨w.heap.size+1,0,none⟩ vq).drew D (.deferred none);have hr:∀ r,some D=some r->∃ o:Obj,((W.alloc (.cells cs t)).setCell ⟨w.heap.size+1,0,none⟩ vq).drew.heap[r]?=some o/\o.isCells=false:=fun r e=>by cases e;exact⟨_,Ux,rfl⟩
 have kc:∀ (b o:Nat) (x:Int),(W.alloc (.cells cs t)).drew.cell? ⟨b,o,none⟩=some (.int .u64 x)->(((W.alloc (.cells cs t)).setCell ⟨w.heap.size+1,0,none⟩ vq).drew.putObj D (.deferred none)).cell? ⟨b,o,none⟩=some (.int .u64 x):=by
  intro b o z hz;refine cell_kept ?_ hg hr;have e:(⟨w.heap.size+1,0,none⟩:Addr)≠⟨b,o,none⟩:=by
   intro e;rw[← e,bq.cell 0 rfl] at hz;simp at hz
  exact(World.cell?_setCell_other _ _ _ _ e).trans hz
 have ks:(W.alloc (.cells cs t)).drew.heap.size<=(((W.alloc (.cells cs t)).setCell ⟨w.heap.size+1,0,none⟩ vq).drew.putObj D (.deferred none)).heap.size:=by
  have:=hg.size;have h2:((W.alloc (.cells cs t)).setCell ⟨w.heap.size+1,0,none⟩ vq).heap.size=(W.alloc (.cells cs t)).heap.size:=by simp
  exact Nat.le_trans (Nat.le_of_eq h2.symm) this
 refine⟨Ux,cell_kept ?_ hg hr,?_,mq.carry ks kc,mr.carry ks kc⟩
 ·exact World.cell?_setCell_same _ _ _ (bq.cell 0 rfl)
 ·exact(((hS.ext.alloc _).setCell (by simp) _).drew).grown hg (fun k e=>by cases e;exact hD)
set_option linter.unusedSimpArgs false in
set_option maxHeartbeats 4000000 in
theorem G7 (a d:Nat) (va vb:Value) (w:World) (ha:eV w va a) (hb:eV w vb d) (hd:0<d) (hd1:d<1000000000) (fa:Fit a) (h:d<=a) :
    Calls prog 246 #[va,vb] w (sB w (a / d) (a % d)):=by
 have HA:=ai ha;have HB:=ai hb;obtain⟨L,hL,cL,E9⟩:=ha;have OE:=fa.len cL E9;obtain⟨M,hM,cM,hMv⟩:=hb;obtain rfl:M=[d]:=by
  refine Canon.unique af cM ⟨?_,?_⟩ (by rw[hMv,gP])
  ·intro x hx;simp at hx;omega
  ·simp;omega
 obtain⟨bb,ob,cb,rfl,h1b,nq,hbb,hCb⟩:=hM.cells (by simp);obtain⟨ad,ca,ba,oa,rfl,XW,hca,y6,Fa⟩:=hL;have SW:w.cell? ⟨bb,ob,none⟩=some (.int .u64 (d:Int)):=by simpa using hCb 0 (by simp)
 simp only[List.length_singleton] at *;obtain⟨n,hn⟩:∃ n,n=L.length:=⟨_,rfl⟩
 rw[← hn] at OE XW y6 Fa HA ⊢;have HN:=ai hn;have Qa:=ai E9;have H1:=ai y6;have H2:=ai Fa;have BL:=ai cL.lt;have SU:=rE h;have qbQ:¬ jy a d<0:=ae;clear hn E9 y6 Fa hM hCb cM hMv cL;obtain⟨i0,hi,nI,mE,jh⟩:=info_parts ps;refine(callsIn_wide (n:=5)).1 ?_;refine callsIn_of_wp_marks func246 rfl trivial ?_ rfl;refine wpIn_wide.2 ?_;simp only[ntmps246,List.size_toArray,List.length_cons,List.length_nil,Nat.reduceAdd,Nat.reduceSub,Array.replicate_succ,Array.replicate_zero,List.push_toArray,List.append_toArray,List.nil_append,List.cons_append];have e1:Ext w ((w.alloc (.cells #[.slice (some ⟨bb,ob,none⟩) 1 cb] 214)).alloc (.cells #[.slice none 0 0] 214)):=((Ext.refl w).alloc _).alloc _;have b3:=(ay.new w #[.slice (some ⟨bb,ob,none⟩) 1 cb] 214).alloc (.cells #[.slice none 0 0] 214);have b4:=ay.new (w.alloc (.cells #[.slice (some ⟨bb,ob,none⟩) 1 cb] 214)) #[.slice none 0 0] 214;rw[World.size_alloc] at b4;go_wp2_with (first
  | (go_at_call 251;refine cto (fW a d _ _ _ (HA.o.ext e1) (HB.o.ext e1)) fun w1 e2=>?_;have To:=b3.ext e2;have Lt:=b4.ext e2;have c3:=To.cell 0 rfl;have c4:=Lt.cell 0 rfl;have f4:=Lt.free 0)
  | (at_make;refine wpList_make_full _ rfl _ _ 214 rfl w1.heap.size 245 i0 (.int .u64 0) 1 underlying214 hi nI mE _ _ _ _ n rfl rfl ae ae (by rw[jh];omega) (by unfold maxLen;omega) (Nat.le_refl _) ?_;intro w2 iE ef;have Lu:=To.grown ef (by simp);have Tn:=Lt.grown ef (by simp);have c3:=Lu.cell 0 rfl;have c4:=Tn.cell 0 rfl;have f4:=Tn.free 0;have s2:=ef.size)
  | (go_at_call 240;refine(callsIn_wide.1 (oO Fence.wide 1 trivial rfl _ _ _ _)).mono ?_;rintro e w' ⟨rfl,rfl⟩))
 obtain⟨W3,AY⟩:∃ W3,(((w2.setCell ⟨w.heap.size+1,0,none⟩ (.slice (some ⟨w1.heap.size,0,none⟩) n n)).alloc (.cells #[.int .u64 0] 245)).alloc (.cells #[.slice ad n ca] 214))=W3:=⟨_,rfl⟩
 rw[AY];have sz1:w.heap.size+2<=w1.heap.size:=by have:=e2.size;simpa using this
 have sz2:w1.heap.size<w2.heap.size:=by
  rcases iE.2 with⟨h',_⟩|⟨g',Lq,cur,h',_,hh,_⟩
  ·simp at h'
  ·simp only[Value.slice.injEq,Option.some.injEq,Addr.mk.injEq,and_true,true_and] at h';rcases Nat.lt_or_ge g' w2.heap.size with h''|h''
   ·omega
   ·rw[Array.getElem?_eq_none h''] at hh;simp at hh
 have sz3:W3.heap.size=w2.heap.size+2:=by rw[← AY];simp
 have e3:Ext w W3:=by
  rw[← AY];exact((((e1.trans e2).grown ef (fun k e=>by cases e)).setCell (by simp) _).alloc _).alloc _
 have ow:ay W3 (w2.heap.size+1) #[.slice ad n ca] 214:=by
  rw[← AY];have:=ay.new ((w2.setCell ⟨w.heap.size+1,0,none⟩ (.slice (some ⟨w1.heap.size,0,none⟩) n n)).alloc (.cells #[.int .u64 0] 245)) #[.slice ad n ca] 214;simpa using this
 have jK:kh w w1.heap.size w2.heap.size (w.heap.size+1) w.heap.size n (.slice (some ⟨bb,ob,none⟩) 1 cb) W3 ((List.replicate n 0).map fun(x:Nat)=>Value.int .u64 x) 0:=by
  rw[pq] at iE;rw[← AY];refine⟨((ownsRow_setCell_other iE (by simp[Value.ownBlock];omega) _).alloc _).alloc _,?_,((Tn.set 0 _).alloc _).alloc _,((Lu.other _ (by simp)).alloc _).alloc _,by rw[AY];exact e3⟩;have:=(ay.new (w2.setCell ⟨w.heap.size+1,0,none⟩ (.slice (some ⟨w1.heap.size,0,none⟩) n n)) #[.int .u64 0] 245).alloc (.cells #[.slice ad n ca] 214);simpa using this
 clear AY b3 To Lu b4 Lt Tn c3 c4 f4 iE ef e1;refine(wpIn_wide (n:=5)).1 ?_;refine wpIn_rangeFunc_ownG (α:=Fin n) rfl af (gf:=271) (lb:=#[.pointer (some ⟨w2.heap.size+1,0,none⟩)]) rfl trivial (enters_of func271 ag rfl)
  (qJ Fence.wide 4 trivial rfl af (w2.heap.size+1) w.heap.size ba oa ca ad L n ae W3 ae ae H1.o (ow.cell 0 rfl) (fun j hj=>(e3.cell (p:=⟨ba,oa+j,none⟩) (H1.o ae).2).trans (H2.o j hj)))
  eZ.trans (eZ.put (w:=W3) ae ae) (Below.refl _ _) (fun _=>rfl)
  (fun pre W=>∃ (Q:List Value) (ρ:Int),kh w w1.heap.size w2.heap.size (w.heap.size+1) w.heap.size n (.slice (some ⟨bb,ob,none⟩) 1 cb) W Q ρ /\
   (∀ k,k<=n->pre=bk n k->∃ (qs:List Nat) (r:Nat),Q=qs.map (fun(x:Nat)=>Value.int .u64 x)/\ρ=(r:Int)/\iz 1000000000 d L qs (n-k) r))
  (fun _ _ _=>False)
  (fun pre A B row hs hg hr=>by
   obtain⟨Q,ρ,h1,h2⟩:=hs;exact⟨Q,ρ,h1.sI hg (fun r e=>⟨by have:=(hr r e).1;omega,(hr r e).2⟩),h2⟩)
  (fun _ _ _ _ _ hs _ _=>hs)
  ⟨_,0,jK,fun k hk e=>⟨List.replicate n 0,0,rfl,rfl,by
   have E6:k=0:=by have:=congrArg List.length e;rw[pF n k hk] at this;simpa using this.symm
   subst E6;rw[Nat.sub_zero,HN.o];exact iz.start af hd⟩⟩
  (fun x=>{ tmps:=#[.slice ad n ca,.slice (some ⟨bb,ob,none⟩) 1 cb,undef,.pointer (some ⟨w.heap.size,0,none⟩),.pointer (some ⟨w.heap.size+1,0,none⟩),.slice none 0 0,.pointer (some ⟨w2.heap.size,0,none⟩),.int .i64 (x.val:Int),.int .u64 ((L[x.val]?.getD 0:Nat):Int),undef,undef,undef,undef,undef,.slice ad n ca,.slice (some ⟨bb,ob,none⟩) 1 cb,.int .i64 (jy a d),.bool (decide (jy a d<0)),undef,.slice (some ⟨bb,ob,none⟩) 1 cb,.int .i64 1,.bool true,.slice ad n ca,.int .i64 (n:Int),.slice (some ⟨w1.heap.size,0,none⟩) n n,.slice ad n ca,.func (.func 271) #[] #[.pointer (some ⟨w2.heap.size+1,0,none⟩)],.int .i64 (x.val:Int),.int .u64 ((L[x.val]?.getD 0:Nat):Int),undef,undef,undef,undef,undef,undef,undef,undef,undef,undef,undef,undef,undef,undef,undef,undef,undef,undef,undef,undef,undef,undef,undef,undef,undef,undef,undef,undef,undef,undef,undef,undef,undef,undef,undef,undef,undef,undef,undef,undef,undef,undef,undef,undef,undef,undef,undef,undef,undef,undef,undef,undef,undef,undef,undef,undef,undef,undef,undef,undef,undef,undef,undef,undef,undef,undef,undef,undef,undef,undef,undef,undef,undef,undef,undef,undef,undef,undef,undef,undef,undef,undef,undef,undef,undef,undef,undef,undef,undef,undef,undef,undef,undef,undef,undef,undef,undef,undef,undef,undef,undef,undef,undef,undef,undef,undef,undef,undef,undef,undef,undef,undef,undef,undef,undef,undef,undef],defers:=[] }) ?assign ?body ?done ?stop
 case assign =>
  intro l x W K hK;gi_wp2;exact hK
 case body =>
  rintro l pre x W ⟨Q,ρ,hS,hQ⟩ hlen;obtain⟨i,jL⟩:=x;have c3:=hS.b.cell 0 rfl;have c4:=hS.q.cell 0 rfl;have c6:=hS.rest.cell 0 rfl;have f6:=hS.rest.free 0;have cb0:=hS.ext.keeps SW;obtain⟨u,hu⟩:∃ u,W.cell? ⟨w1.heap.size,i,none⟩=some u:=⟨_,(hS.own.cellAt i ae).trans (List.getElem?_eq_getElem (by have:=hS.own.1;omega))⟩
  have fq:=hS.own.frozenAt i;have HQ:=ai hQ;have HS:=ai hS;clear hQ hS;have c8:¬ (d:Int)=0:=ae;have qmw:¬ d=0:=ae;gi_wp2;obtain⟨σ,hσ⟩:∃ σ,σ=IntKind.u64.wrap (IntKind.u64.wrap (ρ*1000000000)+((L[i]?.getD 0:Nat):Int)):=⟨_,rfl⟩
  rw[← hσ];have lA:=HS.o.Ix σ ae ae ae ae;have y8:=lA.store i (.int .u64 (IntKind.u64.wrap (σ.tdiv d))) ae ae ae ae;have KZ:=y8.Ix (σ.tmod d) ae ae ae ae;have pD:=y8.b.cell 0 rfl;have uc:=y8.q.cell 0 rfl;have c6':=y8.rest.cell 0 rfl;have f6':=y8.rest.free 0;have Lo:=y8.ext.keeps SW;obtain⟨u',hu'⟩:∃ u,(W.setCell ⟨w2.heap.size,0,none⟩ (.int .u64 σ)).cell? ⟨w1.heap.size,i,none⟩=some u:=⟨_,(lA.own.cellAt i ae).trans (List.getElem?_eq_getElem (by have:=lA.own.1;omega))⟩
  have fq':=lA.own.frozenAt i;have hS0:=lA;have c3a:=lA.b.cell 0 rfl;have c4a:=lA.q.cell 0 rfl;have c6a:=lA.rest.cell 0 rfl;have f6a:=lA.rest.free 0;have cba:=lA.ext.keeps SW;have Hk:=KZ.b.cell 0 rfl;have YI:=KZ.q.cell 0 rfl;have YD:=KZ.ext.keeps SW;clear c3 c4 c6 f6 cb0 hu fq u;refine sE (fun W'=>W'.cell? ⟨w.heap.size,0,none⟩=some (.slice (some ⟨bb,ob,none⟩) 1 cb)/\W'.cell? ⟨w.heap.size+1,0,none⟩=some (.slice (some ⟨w1.heap.size,0,none⟩) n n) /\
   W'.cell? ⟨bb,ob,none⟩=some (.int .u64 (d:Int))/\True) ag ?_ ag ⟨c3a,c4a,cba,trivial⟩ (fun fO=>?_)
  ·exact fun⟨_,_,h⟩=>h
  have HS0:=ai hS0;have HS1:=ai lA;have HS2:=ai y8;have HS3:=ai KZ;have HSI:=ai hσ;clear hS0 lA y8 KZ hσ
  have fin:KeepsFrom W3.heap.size W (((W.setCell ⟨w2.heap.size,0,none⟩ (.int .u64 σ)).setCell ⟨w1.heap.size,i,none⟩ (.int .u64 (IntKind.u64.wrap (σ.tdiv d)))).setCell ⟨w2.heap.size,0,none⟩ (.int .u64 (σ.tmod d))).drew /\
      eZ w.heap.size (w2.heap.size+1) W (((W.setCell ⟨w2.heap.size,0,none⟩ (.int .u64 σ)).setCell ⟨w1.heap.size,i,none⟩ (.int .u64 (IntKind.u64.wrap (σ.tdiv d)))).setCell ⟨w2.heap.size,0,none⟩ (.int .u64 (σ.tmod d))).drew /\
      ∃ (Q:List Value) (ρ:Int),kh w w1.heap.size w2.heap.size (w.heap.size+1) w.heap.size n (.slice (some ⟨bb,ob,none⟩) 1 cb) (((W.setCell ⟨w2.heap.size,0,none⟩ (.int .u64 σ)).setCell ⟨w1.heap.size,i,none⟩ (.int .u64 (IntKind.u64.wrap (σ.tdiv d)))).setCell ⟨w2.heap.size,0,none⟩ (.int .u64 (σ.tmod d))).drew Q ρ /\
       (∀ k,k<=n->pre ++ [⟨i,jL⟩]=bk n k->∃ (qs:List Nat) (r:Nat),Q=qs.map (fun(x:Nat)=>Value.int .u64 x)/\ρ=(r:Int)/\iz 1000000000 d L qs (n-k) r) :=
   ⟨((((KeepsOthers.setCell _ _ _).trans (KeepsOthers.setCell _ _ _)).trans (KeepsOthers.setCell _ _ _)).trans (KeepsOthers.drew _)).from _,
    ((((eZ.refl _ _ _).setCell (by show w.heap.size<=w2.heap.size;omega) (by show w2.heap.size+1≠w2.heap.size;omega) _).setCell (by show w.heap.size<=w1.heap.size;omega) (by show w2.heap.size+1≠w1.heap.size;omega) _).setCell (by show w.heap.size<=w2.heap.size;omega) (by show w2.heap.size+1≠w2.heap.size;omega) _).drew,
    _,_,HS3.o.drew,fun k hk e=>by
     obtain⟨k',rfl,rfl,AW⟩:=sk hk e;obtain⟨qs,r,rfl,rfl,hinv⟩:=HQ.o k' ae rfl;have hx:=cv (B:=1000000000) af BL.out i;have hr:=hinv.rem;have I1:=(show iz 1000000000 d L qs (i+1) r by rw[show i+1=n-k' by omega];exact hinv).step (by rw[← HN.o];exact jL) BL.out hd;obtain⟨e1,e2⟩:=Ll hd1 hr hx;rw[HSI.o,e1,e2];refine⟨_,_,?_,rfl,by rw[show n-(k'+1)=i by omega];exact I1⟩;rw[List.map_set]⟩
  -- GEN-BEGIN
  refine wpAnyH_take (i:=0) (v:=.slice (some ⟨w1.heap.size,0,none⟩) n n) rfl ag ag ag (fun _ _ _ h=>h) (Or.inl ⟨by rfl,fun w rV=>by obtain⟨k3,k4,kb,_⟩:=rV;go_simp⟩) fO ?_
  try simp only[Act.put,aq,au,av]
  refine wpAnyH_take (i:=1) (v:=.int .i64 (i:Int)) rfl ag ag ag (fun _ _ _ h=>h) (Or.inl ⟨by rfl,fun w rV=>by obtain⟨k3,k4,kb,_⟩:=rV;go_simp⟩) fO ?_
  try simp only[Act.put,aq,au,av]
  refine wpAnyH_take (i:=3) (v:=.slice (some ⟨bb,ob,none⟩) 1 cb) rfl ag ag ag (fun _ _ _ h=>h) (Or.inl ⟨by rfl,fun w rV=>by obtain⟨k3,k4,kb,_⟩:=rV;go_simp⟩) fO ?_
  try simp only[Act.put,aq,au,av]
  refine wpAnyH_take (i:=4) (v:=.pointer (some ⟨bb,ob,none⟩)) rfl ag ag ag (fun _ _ _ h=>h) (Or.inl ⟨by rfl,fun w rV=>by obtain⟨k3,k4,kb,_⟩:=rV;go_simp⟩) fO ?_
  try simp only[Act.put,aq,au,av]
  refine wpAnyH_take (i:=5) (v:=.int .u64 (d:Int)) rfl ag ag ag (fun _ _ _ h=>h) (Or.inl ⟨by rfl,fun w rV=>by obtain⟨k3,k4,kb,_⟩:=rV;go_simp⟩) fO ?_
  try simp only[Act.put,aq,au,av]
  refine wpAnyH_take (i:=8) (v:=.slice (some ⟨bb,ob,none⟩) 1 cb) rfl ag ag ag (fun _ _ _ h=>h) (Or.inl ⟨by rfl,fun w rV=>by obtain⟨k3,k4,kb,_⟩:=rV;go_simp⟩) fO ?_
  try simp only[Act.put,aq,au,av]
  refine wpAnyH_take (i:=9) (v:=.pointer (some ⟨bb,ob,none⟩)) rfl ag ag ag (fun _ _ _ h=>h) (Or.inl ⟨by rfl,fun w rV=>by obtain⟨k3,k4,kb,_⟩:=rV;go_simp⟩) fO ?_
  try simp only[Act.put,aq,au,av]
  refine wpAnyH_take (i:=10) (v:=.int .u64 (d:Int)) rfl ag ag ag (fun _ _ _ h=>h) (Or.inl ⟨by rfl,fun w rV=>by obtain⟨k3,k4,kb,_⟩:=rV;go_simp⟩) fO ?_
  try simp only[Act.put,aq,au,av]
  refine wpAnyH_ready (rs:=[2,7]) ag (by simp) ?_;refine AllReadyH.cons rfl (fun K hK=>?_) (AllReadyH.cons rfl (fun K hK=>?_) AllReadyH.nil)
  ·skip
   go_simp;refine hK.out _ _ ⟨c3a,c4a,cba,trivial⟩ (fun fO=>?_);clear hK K
   try simp only[Act.put,aq,au,av]
   refine wpAnyH_take (i:=6) (v:=.int .u64 (IntKind.u64.wrap (σ.tdiv d))) rfl ag ag ag (fun _ _ _ h=>h) (Or.inl ⟨by rfl,fun w rV=>by obtain⟨k3,k4,kb,_⟩:=rV;go_simp⟩) fO ?_
   try simp only[Act.put,aq,au,av]
   refine wpAnyH_take (i:=12) (v:=.pointer (some ⟨w1.heap.size,i,none⟩)) rfl ag ag ag (fun _ _ _ h=>h) (Or.inl ⟨by rfl,fun w rV=>by obtain⟨k3,k4,kb,_⟩:=rV;go_simp⟩) fO ?_
   try simp only[Act.put,aq,au,av]
   refine wpAnyH_ready (rs:=[7,13]) ag (by simp) ?_;refine AllReadyH.cons rfl (fun K hK=>?_) (AllReadyH.cons rfl (fun K hK=>?_) AllReadyH.nil)
   ·skip
    go_simp;refine hK.out _ _ ⟨c3a,c4a,cba,trivial⟩ (fun fO=>?_);clear hK K
    try simp only[Act.put,aq,au,av]
    refine wpAnyH_take (i:=11) (v:=.int .u64 (σ.tmod d)) rfl ag ag ag (fun _ _ _ h=>h) (Or.inl ⟨by rfl,fun w rV=>by obtain⟨k3,k4,kb,_⟩:=rV;go_simp⟩) fO ?_
    try simp only[Act.put,aq,au,av]
    refine wpAnyH_ready (rs:=[13]) ag (by simp) ?_;refine AllReadyH.cons rfl (fun K hK=>?_) AllReadyH.nil;go_simp;refine hK.out _ _ ⟨pD,uc,Lo,trivial⟩ (fun fO=>?_);clear hK K
    try simp only[Act.put,aq,au,av]
    refine wpAnyH_ready (rs:=[14]) ag (by simp) ?_;refine AllReadyH.cons rfl (fun K hK=>?_) AllReadyH.nil;go_simp;refine hK.out _ _ ⟨Hk,YI,YD,trivial⟩ (fun fO=>?_);clear hK K
    try simp only[Act.put,aq,au,av]
    refine wpAnyH_done ag ?_ _;gi_wp2;exact fin
   ·skip
    go_simp;refine hK.out _ _ ⟨pD,uc,Lo,trivial⟩ (fun fO=>?_);clear hK K
    try simp only[Act.put,aq,au,av]
    refine wpAnyH_ready (rs:=[7]) ag (by simp) ?_;refine AllReadyH.cons rfl (fun K hK=>?_) AllReadyH.nil;go_simp;refine hK.out _ _ ⟨pD,uc,Lo,trivial⟩ (fun fO=>?_);clear hK K
    try simp only[Act.put,aq,au,av]
    refine wpAnyH_take (i:=11) (v:=.int .u64 (σ.tmod d)) rfl ag ag ag (fun _ _ _ h=>h) (Or.inl ⟨by rfl,fun w rV=>by obtain⟨k3,k4,kb,_⟩:=rV;go_simp⟩) fO ?_
    try simp only[Act.put,aq,au,av]
    refine wpAnyH_ready (rs:=[14]) ag (by simp) ?_;refine AllReadyH.cons rfl (fun K hK=>?_) AllReadyH.nil;go_simp;refine hK.out _ _ ⟨Hk,YI,YD,trivial⟩ (fun fO=>?_);clear hK K
    try simp only[Act.put,aq,au,av]
    refine wpAnyH_done ag ?_ _;gi_wp2;exact fin
  ·skip
   go_simp;refine hK.out _ _ ⟨c3a,c4a,cba,trivial⟩ (fun fO=>?_);clear hK K
   try simp only[Act.put,aq,au,av]
   refine wpAnyH_take (i:=11) (v:=.int .u64 (σ.tmod d)) rfl ag ag ag (fun _ _ _ h=>h) (Or.inl ⟨by rfl,fun w rV=>by obtain⟨k3,k4,kb,_⟩:=rV;go_simp⟩) fO ?_
   try simp only[Act.put,aq,au,av]
   refine wpAnyH_ready (rs:=[2]) ag (by simp) ?_;refine AllReadyH.cons rfl (fun K hK=>?_) AllReadyH.nil;go_simp;refine hK.out _ _ ⟨c3a,c4a,cba,trivial⟩ (fun fO=>?_);clear hK K
   try simp only[Act.put,aq,au,av]
   refine wpAnyH_take (i:=6) (v:=.int .u64 (IntKind.u64.wrap (σ.tdiv d))) rfl ag ag ag (fun _ _ _ h=>h) (Or.inl ⟨by rfl,fun w rV=>by obtain⟨k3,k4,kb,_⟩:=rV;go_simp⟩) fO ?_
   try simp only[Act.put,aq,au,av]
   refine wpAnyH_take (i:=12) (v:=.pointer (some ⟨w1.heap.size,i,none⟩)) rfl ag ag ag (fun _ _ _ h=>h) (Or.inl ⟨by rfl,fun w rV=>by obtain⟨k3,k4,kb,_⟩:=rV;go_simp⟩) fO ?_
   try simp only[Act.put,aq,au,av]
   refine wpAnyH_ready (rs:=[13]) ag (by simp) ?_;refine AllReadyH.cons rfl (fun K hK=>?_) AllReadyH.nil;go_simp;refine hK.out _ _ ⟨pD,uc,Lo,trivial⟩ (fun fO=>?_);clear hK K
   try simp only[Act.put,aq,au,av]
   refine wpAnyH_ready (rs:=[14]) ag (by simp) ?_;refine AllReadyH.cons rfl (fun K hK=>?_) AllReadyH.nil;go_simp;refine hK.out _ _ ⟨Hk,YI,YD,trivial⟩ (fun fO=>?_);clear hK K
   try simp only[Act.put,aq,au,av]
   refine wpAnyH_done ag ?_ _;gi_wp2;exact fin
  -- GEN-END
 case done =>
  rintro D ys W hD rfl ⟨Q,ρ,hS,hQ⟩ hK;obtain⟨qs,r,rfl,rfl,hinv⟩:=hQ n (Nat.le_refl _) rfl;clear hQ;have c4:=hS.q.cell 0 rfl;have c6:=hS.rest.cell 0 rfl;have f4:=hS.q.free 0;rw[Nat.sub_self] at hinv;obtain⟨eq,er⟩:=hinv.done;rw[Qa.o] at eq er;have hq:=Holds.fm hS.own;have hr1:bK 1000000000 [r]:=by intro x hx;simp at hx;have:=hinv.rem;omega
  have EQ:=ai eq;have ER:=ai er;have HQ:=ai hq;have HS:=ai hS;clear hS hq eq er;go_wp2;have b4a:=(HS.o.q.alloc (.cells #[.int .u64 (r:Int)] 245)).drew;have c4a:=b4a.cell 0 rfl;have f4a:=b4a.free 0;have d1:Ext W W.drew:=(Ext.refl W).drew;have d2:∀ o,Ext W (W.alloc o).drew:=fun o=>((Ext.refl W).alloc o).drew
  first|(go_region_with (first
   | (go_at_call 238;(with_reducible refine(n6 qs (.slice (some ⟨w1.heap.size,0,none⟩) n n) _ (by first|exact HQ.o.ext d1|exact HQ.o.ext (d2 _)) hinv.lt).mono ?_);rintro e wq ⟨vq,rfl,rfl,mq⟩;obtain⟨qa,ql,qc,rfl⟩:=mq.slice)
   | (go_at_call 238;(with_reducible refine(n6 [r] _ _ (by first|exact(Holds.one W .u64 r 245).ext ((Ext.refl _).drew)|exact(Holds.one (W.setCell _ _) .u64 r 245).ext ((Ext.refl _).drew)) hr1).mono ?_);rintro e wr ⟨vr,rfl,rfl,mr⟩;obtain⟨ra,rl,rc,rfl⟩:=mr.slice)))|fail "region"
  all_goals go_wp2
  all_goals
   have mq':eV (W.alloc (.cells #[.int .u64 (r:Int)] 245)).drew (.slice qa ql qc) (a / d):=by
    rw[← EQ.out]
    first|exact mq|exact mq.ext (((Ext.refl W.drew).alloc _).trans (by exact Ext.refl _))
   have mr':eV (W.alloc (.cells #[.int .u64 (r:Int)] 245)).drew (.slice ra rl rc) (a % d):=by
    rw[← ER.out,← gP 1000000000 r];exact mr
   obtain⟨Ux,hc5,he,m1,m2⟩:=Tg HS.o (by have:=e3.size;omega) hK _ _ mq' mr';refine⟨by simp,.inl ⟨_,_,rfl,run_takeDeferred Ux,?_⟩⟩;exact⟨.tuple #[.slice qa ql qc,.slice ra rl rc],by simp[results,results246,go_sem,hc5],_,_,rfl,he,m1,m2⟩
 case stop =>
  rintro D c pre W _ _ h _;exact h.elim
