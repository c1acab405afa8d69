/- Part 24. -/
import Derived.Test.YtmahadmefplbnaaGreatDoorQVLB
import Derived.Test.YtmahadmefplbnaaGreatDoorQVL3
import Derived.RegionTactic
set_option maxRecDepth 100000
set_option maxHeartbeats 2000000
set_option linter.unusedVariables false
namespace Go.Proofs.YtmahadmefplbnaaGreatDoor
open Go Go.RowKit
section
variable {P:Program} {ops:Array Oper} {Q:Exit->Act->World->Prop} {md:Region.Mode}
theorem ns{l:Array Bool}{i:Nat}(h:l.getD i true=false):i<l.size:=by
 rcases Nat.lt_or_ge i l.size with h'|h'
 ·exact h'
 ·simp[Array.getD,Nat.not_lt.2 h'] at h
theorem count_set{l:List Bool}{i:Nat}(hi:i<l.length)(h:l[i]=false):(l.set i true).countP (fun b=>!b)+1=l.countP (fun b=>!b):=by
 induction l generalizing i with
 | nil=>simp at hi
 | cons b l ih =>
  cases i with
  | zero=>simp at h;subst h;simp
  | succ i =>
   have:=ih (by simpa using hi) (by simpa using h);simp only[av,List.countP_cons];omega
theorem sF (Inv:Array Bool->Act->World->Prop)
    (I1:∀ listed a w i,listed.size=ops.size->Inv listed a w->i ∈ Region.ready md ops listed->wpOp P ops Q i (fun a' w'=>Inv (listed.setIfInBounds i true) a' w') a w)
    (hend:∀ listed a w,listed.size=ops.size->Inv listed a w->Region.ready md ops listed=[]->Q .normal a w) :
    ∀ (fuel:Nat) (listed:Array Bool) (a:Act) (w:World),listed.size=ops.size->listed.toList.countP (fun b=>!b)<=fuel->Inv listed a w->wpAny P md ops Q fuel listed a w
 | 0,listed,a,w,hs,hc,hI=>by
  have hr:Region.ready md ops listed=[]:=by
   rw[List.eq_nil_iff_forall_not_mem];intro i hi;obtain⟨h0,_⟩:=mem_ready.1 hi;have aP:=ns h0;have:listed[i]=false:=by simpa[Array.getD,aP] using h0
   have h1:0<listed.toList.countP (fun b=>!b):=List.countP_pos_iff.2 ⟨listed[i],by simp,by simp[this]⟩;omega
  exact⟨hr,hend listed a w hs hI hr⟩
 | fuel+1,listed,a,w,hs,hc,hI=>by
  refine⟨fun hr=>hend listed a w hs hI hr,fun i hi=>?_⟩;obtain⟨h0,_⟩:=mem_ready.1 hi;have aP:=ns h0;have h1:listed[i]=false:=by simpa[Array.getD,aP] using h0
  refine wpOp_mono (fun a' w' h=>sF Inv I1 hend fuel _ a' w' (by simpa using hs) ?_ h) (I1 listed a w i hs hI hi);have:=count_set (l:=listed.toList) (i:=i) (by simpa using aP) (by simpa using h1);simp only[Array.toList_setIfInBounds];omega
inductive Kd where
 | val (v:Value)
 | mem (mk:Nat->Value) (z:Array Value) (t:TypeId) (s:Option Nat)
 | put (al:Nat) (c:Array Value)
 | off
 | st (n:Nat)
structure Ob where
 b:Nat
 z:Array Value
 c:Array Value
 t:TypeId
def tX(l:List Kd)(n:Nat):Option Nat:=(List.range l.length).find? fun i=>match l[i]? with
 | some (.st m)=>m == n
 | _=>false
theorem uo{l:List Kd}{n i:Nat}(h:tX l n=some i):l[i]?=some (.st n):=by
 have:=List.find?_some h;split at this
 ·rename_i m e;have:m=n:=by simpa using this
  rw[e,this]
 ·cases this
def ka(l:List Kd)(L:Nat->Bool)(n:Nat)(o:Ob):Array Value:=if ((tX l n).map L).getD false then o.c else o.z
variable {X:World} {bs:List Ob} {nb:Nat}
def bX(ops:Array Oper)(i:Nat):Option Tmp:=(ops.toList[i]?).bind (·.dst)
def eW(ops:Array Oper)(j i:Nat):Bool:=match ops.toList[i]? with
 | some o=>o.after.toList.any fun e=>Region.binds .any e && e.on == j
 | none=>false
theorem eF(ops:Array Oper)(i:Nat):bX ops i=(ops[i]?).bind (·.dst):=by unfold bX;rw[Array.getElem?_toList]
theorem vX(ops:Array Oper)(j i:Nat):eW ops j i=(match ops[i]? with
 | some o=>o.after.any fun e=>Region.binds .any e && e.on == j
 | none=>false):=by
 unfold eW;rw[Array.getElem?_toList];cases ops[i]? with
 | none=>rfl
 | some o=>simp only[Array.any_toList]
def Kd.cells(l:List Kd)(z:Array Value)(i:Nat):Option Nat->Array Value
 | none=>z
 | some s=>match l[s]? with
  | some (.put al c)=>if al=i then c else z
  | _=>z
def Kd.value(g:Nat->Nat)(i:Nat):Kd->Value
 | .val v=>v
 | .mem mk _ _ _=>mk (g i)
 | _=>undef
def iq(ops:Array Oper)(n:Nat):Bool :=
 (List.range ops.size).all fun i=>match ops[i]? with
  | some o => o.after.all (fun e => !Region.binds .any e || decide (e.on < i)) && (match o.dst with
      | some d=>decide (d<n) && (List.range i).all (fun j=>bX ops j != some d)
      | none=>true) && (match o.guard with
      | some (j,_)=>eW ops j i && (bX ops j).isSome
      | none=>true)
  | none=>false
def kF(ops:Array Oper)(j:Nat):Nat->Nat->Bool
 | 0,_=>false
 | f+1,i=>eW ops j i || (List.range i).any fun k=>eW ops k i && kF ops j f k
def FM(ops:Array Oper)(l:List Kd)(i n:Nat):Bool:=match tX l n with
 | some s=>kF ops i ops.size s
 | none=>true
def oj(ops:Array Oper)(nb:Nat)(l:List Kd):Bool :=
 l.length == ops.size && (List.range l.length).all fun i=>match l[i]?,ops[i]? with
  | some k, some o => (match k with
      | .put al _ => o.dst.isNone && eW ops al i && (match l[al]? with
          | some (.mem _ _ _ (some s))=>s == i
          | _=>false)
      | .mem _ _ _ _=>o.dst.isSome
      | .st n=>o.dst.isNone && tX l n == some i && decide (n<nb)
      | _=>true) && (match o.guard with
      | none => (match k with
          | .off=>false
          | _=>true)
      | some (j, want) => (match l[j]? with
          | some (.val (.bool b)) => (match k with
              | .off=>b != want
              | _=>b == want)
          | some .off => (match k with
              | .off=>true
              | _=>false)
          | _=>false))
  | _,_=>false
abbrev qbb(ops:Array Oper)(l:List Kd):Bool:=oj ops 0 l
def yw(b:Nat)(w w':World):Prop:=(∀ (k:Nat) (cs:Array Value) (t:TypeId),k≠b->ay w k cs t->ay w' k cs t)/\(∀ X:World,X.heap.size<=b->Ext X w->Ext X w')/\w'.heap.size=w.heap.size
theorem yw.refl(b:Nat)(w:World):yw b w w:=⟨fun _ _ _ _ h=>h,fun _ _ h=>h,rfl⟩
theorem yw.set{b:Nat}{w w':World}(h:yw b w w')(o:Nat)(u:Value):yw b w (w'.setCell ⟨b,o,none⟩ u) :=
 ⟨fun k cs t hk hB=>(h.1 k cs t hk hB).other (a:=⟨b,o,none⟩) u hk,fun X hX hE=>(h.2.1 X hX hE).setCell (p:=⟨b,o,none⟩) hX u,(World.size_setCell _ _ _).trans h.2.2⟩
def Hd(ops:Array Oper)(i:Nat)(a:Act)(v:Value):Prop:=∀ d,bX ops i=some d->a.tmps[d]?=some v
def Dn(w0:World)(ops:Array Oper)(l:List Kd)(L:Nat->Bool)(g:Nat->Nat)(i:Nat)(a:Act)(w:World):Prop :=
 match l[i]? with
 | some (.val v)=>Hd ops i a v
 | some (.mem mk z t s)=>Hd ops i a (mk (g i))/\w0.heap.size<=g i/\ay w (g i) (if (s.map L).getD false then Kd.cells l z i s else z) t
 | some (.put _ _)=>True
 | some .off=>Hd ops i a undef
 | some (.st _)=>True
 | none=>True
def Rn(P:Program)(Q:Exit->Act->World->Prop)(bs:List Ob)(l:List Kd)(g:Nat->Nat)(o:Oper)(k:Kd)(a:Act)(w:World):Prop :=
 match k with
 | .val v=>∀ K:Act->World->Prop,(∀ w',Ext w w'->K (a.put o.dst v) w')->o.wp P a w K Q
 | .mem mk z t _=>∀ K:Act->World->Prop,K (a.put o.dst (mk w.heap.size)) (w.alloc (.cells z t))->o.wp P a w K Q
 | .put al c=>∀ z t,ay w (g al) z t->(∃ mk s,l[al]?=some (.mem mk z t s))->∀ K:Act->World->Prop,(∀ w',yw (g al) w w'->ay w' (g al) c t->K (a.put o.dst undef) w')->o.wp P a w K Q
 | .st n=>∀ ob,bs[n]?=some ob->ay w ob.b ob.z ob.t->∀ K:Act->World->Prop,(∀ w',yw ob.b w w'->ay w' ob.b ob.c ob.t->K (a.put o.dst undef) w')->o.wp P a w K Q
 | .off=>True
def Seen(X w0:World)(bs:List Ob)(ops:Array Oper)(l:List Kd)(g:Nat->Nat)(i:Nat)(a0 a:Act)(w:World):Prop :=
 Ext X w/\(∀ t,(∀ j,bX ops j≠some t)->a.eval (.tmp t)=a0.eval (.tmp t)) /\
 (∀ j,eW ops j i=true->∀ d,bX ops j=some d->match l[j]? with
  | some k => a.eval (.tmp d) = k.value g j /\ (match k with
      | .mem _ z t s=>w0.heap.size<=g j/\(s=none->ay w (g j) z t)
      | _=>True)
  | none=>True)/\(∀ k cs t,(∀ ob ∈ bs,ob.b≠k)->ay w0 k cs t->ay w k cs t)/\∀ n ob,bs[n]?=some ob->FM ops l i n=true->ay w ob.b ob.z ob.t
def oX(P:Program)(Q:Exit->Act->World->Prop)(X w0:World)(bs:List Ob)(ops:Array Oper)(l:List Kd)(a0:Act):List Nat->Prop
 | []=>True
 | i :: is => (∀ (g : Nat -> Nat) (a : Act) (w : World), Seen X w0 bs ops l g i a0 a w -> match ops[i]?, l[i]? with
     | some o,some k=>Rn P Q bs l g o k a w
     | _,_=>True)/\oX P Q X w0 bs ops l a0 is
theorem oX.at {P:Program} {Q:Exit->Act->World->Prop} {w0:World} {ops:Array Oper} {l:List Kd} {a0:Act}:∀ {is:List Nat},oX P Q X w0 bs ops l a0 is->∀ i ∈ is,∀ (g:Nat->Nat) (a:Act) (w:World),Seen X w0 bs ops l g i a0 a w ->
    ∀ o k,ops[i]?=some o->l[i]?=some k->Rn P Q bs l g o k a w
 | [],_,i,hi=>by cases hi
 | j :: is,h,i,hi=>by
  rcases List.mem_cons.1 hi with rfl|hi
  ·intro g a w hs o k ho hk;have:=h.1 g a w hs;rwa[ho,hk] at this
  ·exact h.2.at i hi
def iT(a0:Act)(ops:Array Oper)(l:List Kd)(g:Nat->Nat):Nat->Act
 | 0=>a0
 | n+1=>(iT a0 ops l g n).put (bX ops n) (((l[n]?).map (Kd.value g n)).getD undef)
structure Inv(X w0:World)(bs:List Ob)(a0:Act)(ops:Array Oper)(l:List Kd)(g:Nat->Nat)(listed:Array Bool)(a:Act)(w:World):Prop where
 ext:Ext X w
 size0:w0.heap.size<=w.heap.size
 kept:∀ k cs t,(∀ ob ∈ bs,ob.b≠k)->ay w0 k cs t->ay w k cs t
 obs:∀ n ob,bs[n]?=some ob->ay w ob.b (ka l (fun s=>listed.getD s true) n ob) ob.t
 defers:a.defers=a0.defers
 size:a.tmps.size=a0.tmps.size
 off:∀ t,(∀ i,bX ops i≠some t)->a.tmps[t]?=a0.tmps[t]?
 done:∀ i,i<ops.size->listed.getD i true=true->Dn w0 ops l (fun s=>listed.getD s true) g i a w
 apart:∀ i j,i≠j->i<ops.size->j<ops.size->listed.getD i true=true->listed.getD j true=true->(∃ mk z t s,l[i]?=some (.mem mk z t s))->(∃ mk z t s,l[j]?=some (.mem mk z t s))->g i≠g j
 shut:∀ i j,i<ops.size->listed.getD i true=true->eW ops j i=true->listed.getD j true=true
theorem kE{ops:Array Oper}{i:Nat}{d:Tmp}(h:bX ops i=some d):i<ops.size:=by
 rw[eF] at h;rcases Nat.lt_or_ge i ops.size with h'|h'
 ·exact h'
 ·simp[h'] at h
theorem jB {ops:Array Oper} {n i:Nat} {o:Oper} (h:iq ops n=true) (hi:ops[i]?=some o) :
    (∀ e ∈ o.after,Region.binds .any e=true->e.on<i)/\(∀ d,o.dst=some d->d<n/\∀ j<i,bX ops j≠some d)/\(∀ j b,o.guard=some (j,b)->eW ops j i=true/\∃ d,bX ops j=some d):=by
 have aP:=(Array.getElem?_eq_some_iff.1 hi).1;have:=List.all_eq_true.1 h i (by simpa using aP);simp only[hi,Bool.and_eq_true] at this;obtain⟨⟨h1,h2⟩,h3⟩:=this;refine⟨fun e he hb=>by simpa[hb] using(Array.all_eq_true'.1 h1) e he,fun d hd=>?_,fun j b hg=>?_⟩
 ·rw[hd] at h2;simp only[Bool.and_eq_true,decide_eq_true_eq,List.all_eq_true,List.mem_range,bne_iff_ne] at h2;exact h2
 ·rw[hg] at h3;simp only[Bool.and_eq_true] at h3;exact⟨h3.1,Option.isSome_iff_exists.1 h3.2⟩
theorem uK{ops:Array Oper}{n i j:Nat}{d:Tmp}(h:iq ops n=true)(hi:bX ops i=some d)(hj:bX ops j=some d):i=j:=by
 have rU:=kE hi;have Gy:=kE hj;have ei:bX ops i=ops[i].dst:=by simp[eF,rU]
 have ej:bX ops j=ops[j].dst:=by simp[eF,Gy]
 rcases Nat.lt_trichotomy i j with aP|rfl|aP
 ·exact absurd hi (((jB h (show ops[j]?=some ops[j] by simp[Gy])).2.1 d (ej▸hj)).2 i aP)
 ·rfl
 ·exact absurd hj (((jB h (show ops[i]?=some ops[i] by simp[rU])).2.1 d (ei▸hi)).2 j aP)
theorem Bi{ops:Array Oper}{n i:Nat}{d:Tmp}(h:iq ops n=true)(hi:bX ops i=some d):d<n:=by
 have rU:=kE hi;have ei:bX ops i=ops[i].dst:=by simp[eF,rU]
 exact((jB h (show ops[i]?=some ops[i] by simp[rU])).2.1 d (ei▸hi)).1
theorem nx{ops:Array Oper}{n i j:Nat}(h:iq ops n=true)(hi:eW ops j i=true):j<i/\i<ops.size:=by
 rw[vX] at hi;cases ho:ops[i]? with
 | none=>simp[ho] at hi
 | some o =>
  rw[ho] at hi;simp only[Array.any_eq_true',Bool.and_eq_true,beq_iff_eq] at hi;obtain⟨e,he,hb,rfl⟩:=hi;exact⟨(jB h ho).1 e he hb,(Array.getElem?_eq_some_iff.1 ho).1⟩
theorem pr{ops:Array Oper}{l:List Kd}(h:oj ops nb l=true):l.length=ops.size:=by
 simp only[oj,Bool.and_eq_true,beq_iff_eq] at h;exact h.1
theorem me {ops:Array Oper} {l:List Kd} (h:oj ops nb l=true) {i:Nat} {k:Kd} {o:Oper} (hk:l[i]?=some k) (ho:ops[i]?=some o) :
    (∀ al c,k = .put al c->o.dst=none/\eW ops al i=true/\∃ mk z t,l[al]?=some (.mem mk z t (some i)))/\(∀ mk z t s,k = .mem mk z t s->o.dst.isSome=true) /\
    (o.guard=none->k ≠ .off)/\(∀ j want,o.guard=some (j,want)->(∃ b,l[j]?=some (.val (.bool b))/\((k = .off/\b≠want)∨(k ≠ .off/\b=want)))∨(l[j]?=some .off/\k = .off)) /\
    ∀ n,k = .st n->o.dst=none/\tX l n=some i/\n<nb:=by
 simp only[oj,Bool.and_eq_true,beq_iff_eq] at h;have:=List.all_eq_true.1 h.2 i (by simpa using(List.getElem?_eq_some_iff.1 hk).1);simp only[hk,ho,Bool.and_eq_true] at this;obtain⟨h1,h2⟩:=this;refine⟨fun al c e=>?_,fun mk z t s e=>?_,fun hg e=>?_,fun j want hg=>?_,fun n e=>?_⟩
 ·subst e;simp only[Bool.and_eq_true] at h1;obtain⟨⟨a,b⟩,c⟩:=h1;refine⟨by simpa using a,b,?_⟩;split at c
  ·rename_i mk z t s e;have:s=i:=by simpa using c
   subst this;exact⟨mk,z,t,e⟩
  ·cases c
 ·subst e;exact h1
 ·subst e;rw[hg] at h2;cases h2
 ·rw[hg] at h2;simp only at h2;split at h2
  ·rename_i b e;refine Or.inl ⟨b,e,?_⟩;cases k <;> simp_all
  ·rename_i e;cases k <;> simp_all
  ·cases h2
 ·subst e;simp only[Bool.and_eq_true,beq_iff_eq,decide_eq_true_eq] at h1;exact⟨by simpa using h1.1.1,h1.1.2,h1.2⟩
theorem Act.ia{a:Act}{d:Option Tmp}{v:Value}{t:Nat}:(a.put d v).tmps[t]?=if d=some t/\t<a.tmps.size then some v else a.tmps[t]?:=by
 cases d with
 | none=>simp[Act.put]
 | some d =>
  simp only[Act.put,Array.getElem?_setIfInBounds,Option.some.injEq];by_cases h:d=t
  ·subst h;by_cases h2:d<a.tmps.size
   ·simp[h2]
   ·simp[h2]
  ·simp[h]
theorem Act.rB{a:Act}{d:Option Tmp}{v:Value}:(a.put d v).tmps.size=a.tmps.size:=by cases d <;> simp[Act.put]
theorem Act.uw{a:Act}{d:Option Tmp}{v:Value}:(a.put d v).defers=a.defers:=by cases d <;> simp[Act.put]
theorem Act.uJ{a:Act}{t:Nat}{v:Value}(h:a.tmps[t]?=some v):a.eval (.tmp t)=v:=by
 simp[Act.eval,Array.getD_eq_getD_getElem?,h]
theorem Act.zj{a b:Act}{t:Nat}(h:a.tmps[t]?=b.tmps[t]?):a.eval (.tmp t)=b.eval (.tmp t):=by
 simp[Act.eval,Array.getD_eq_getD_getElem?,h]
abbrev lv(listed:Array Bool)(s:Nat):Bool:=listed.getD s true
theorem mX{listed:Array Bool}{i s:Nat}:lv (listed.setIfInBounds i true) s=(lv listed s || (s == i)):=by
 by_cases h:s=i
 ·subst h;simp only[lv,beq_self_eq_true,Bool.or_true];rw[Array.getD_eq_getD_getElem?,Array.getElem?_setIfInBounds];by_cases h2:s<listed.size
  ·simp[h2]
  ·simp[h2]
 ·simp only[lv,beq_eq_false_iff_ne.2 h,Bool.or_false];exact getD_set_ne true (fun e=>h e.symm)
def now(l:List Kd)(z:Array Value)(i:Nat)(s:Option Nat)(L:Nat->Bool):Array Value:=if (s.map L).getD false then Kd.cells l z i s else z
theorem tO{l:List Kd}{z:Array Value}{j s:Nat}(h:∀ c,l[s]?≠some (.put j c)):Kd.cells l z j (some s)=z:=by
 unfold Kd.cells;simp only;cases e:l[s]? with
 | none=>rfl
 | some k =>
  cases k with
  | put al c =>
   simp only;by_cases e2:al=j
   ·subst e2;exact absurd e (h c)
   ·rw[if_neg e2]
  | _=>rfl
theorem og {l:List Kd} {z:Array Value} {j i:Nat} {s:Option Nat} {listed:Array Bool} (h:∀ c,l[i]?≠some (.put j c)) :
    now l z j s (fun k=>lv (listed.setIfInBounds i true) k)=now l z j s (fun k=>lv listed k):=by
 unfold now;cases s with
 | none=>rfl
 | some s =>
  simp only[Option.map_some,Option.getD_some,mX];by_cases e:s=i
  ·subst e;have:Kd.cells l z j (some s)=z:=tO h;rw[this];simp
  ·simp[e]
theorem Inv.next {w0:World} {a0 a:Act} {ops:Array Oper} {l:List Kd} {g g':Nat->Nat} {listed:Array Bool} {w w':World} {i:Nat} {v:Value}
    (ho:iq ops a0.tmps.size=true) (I:Inv X w0 bs a0 ops l g listed a w) (hi:i<ops.size)
    (hx:Ext X w') (hs0:w0.heap.size<=w'.heap.size) (hkp:∀ k cs t,(∀ ob ∈ bs,ob.b≠k)->k<w0.heap.size->ay w k cs t->ay w' k cs t)
    (XA:∀ n ob,bs[n]?=some ob->ay w ob.b (ka l (fun s=>lv listed s) n ob) ob.t->ay w' ob.b (ka l (fun s=>lv (listed.setIfInBounds i true) s) n ob) ob.t) (hg:∀ j,j≠i->g' j=g j)
    (hD:Dn w0 ops l (fun s=>lv (listed.setIfInBounds i true) s) g' i (a.put (bX ops i) v) w')
    (hp:∀ j,j<ops.size->j≠i->lv listed j=true->∀ mk z t s,l[j]?=some (.mem mk z t s)->w0.heap.size<=g j->ay w (g j) (now l z j s (fun k=>lv listed k)) t->ay w' (g j) (now l z j s (fun k=>lv (listed.setIfInBounds i true) k)) t)
    (ha:(∃ mk z t s,l[i]?=some (.mem mk z t s))->∀ j,j<ops.size->j≠i->lv listed j=true->(∃ mk z t s,l[j]?=some (.mem mk z t s))->g' i≠g j)
    (hd:∀ j,eW ops j i=true->lv listed j=true):Inv X w0 bs a0 ops l g' (listed.setIfInBounds i true) (a.put (bX ops i) v) w' where
 ext:=hx
 size0:=hs0
 kept k cs t hk hB:=hkp k cs t hk hB.lt (I.kept k cs t hk hB)
 obs n ob h:=XA n ob h (I.obs n ob h)
 defers:=Act.uw.trans I.defers
 size:=Act.rB.trans I.size
 off t ht:=by
  rw[Act.ia,if_neg (fun h=>ht i h.1)];exact I.off t ht
 done j hj hl:=by
  by_cases e:j=i
  ·subst e;exact hD
  ·have Z9:lv listed j=true:=by
    have:lv (listed.setIfInBounds i true) j=true:=hl;rw[mX] at this;simpa[e] using this
   have D:=I.done j hj Z9;have hH:∀ u,Hd ops j a u->Hd ops j (a.put (bX ops i) v) u:=fun u h d hd0=>by
    rw[Act.ia,if_neg (fun h2=>e (uK ho hd0 h2.1))];exact h d hd0
   unfold Dn at D ⊢;cases hk:l[j]? with
   | none=>trivial
   | some k =>
    rw[hk] at D;cases k with
    | val u=>exact hH u D
    | mem mk z t s =>
     simp only[hg j e] at D ⊢;exact⟨hH _ D.1,D.2.1,hp j hj e Z9 mk z t s hk D.2.1 D.2.2⟩
    | put al c=>trivial
    | st n=>trivial
    | off=>exact hH undef D
 apart j k yi hj hk hlj hlk mj mk:=by
  have f:∀ x:Nat,x≠i->lv (listed.setIfInBounds i true) x=true->lv listed x=true:=fun x hx this=>by
   rw[mX] at this;simpa[hx] using this
  by_cases e1:j=i
  ·subst e1;have e2:k≠j:=fun e=>yi e.symm
   rw[hg k e2];exact ha mj k hk e2 (f k e2 hlk) mk
  ·by_cases e2:k=i
   ·subst e2;rw[hg j e1];exact fun e=>ha mk j hj e1 (f j e1 hlj) mj e.symm
   ·rw[hg j e1,hg k e2];exact I.apart j k yi hj hk (f j e1 hlj) (f k e2 hlk) mj mk
 shut j k hj hl nj:=by
  show lv (listed.setIfInBounds i true) k=true;rw[mX];by_cases e:j=i
  ·subst e;simp[hd k nj]
  ·have:lv (listed.setIfInBounds i true) j=true:=hl;rw[mX] at this;have h2:=I.shut j k hj (by simpa[e] using this) nj;have h3:lv listed k=true:=h2;simp[h3]
theorem kG{l:List Kd}{i n:Nat}{ob:Ob}{listed:Array Bool}(h:l[i]?≠some (.st n)):ka l (fun s=>lv (listed.setIfInBounds i true) s) n ob=ka l (fun s=>lv listed s) n ob:=by
 unfold ka;cases e:tX l n with
 | none=>rfl
 | some s =>
  simp only[Option.map_some,Option.getD_some,mX];by_cases e2:s=i
  ·subst e2;exact absurd (uo e) h
  ·simp[e2]
theorem Inv.deep{w0 w:World}{a0 a:Act}{ops:Array Oper}{l:List Kd}{g:Nat->Nat}{listed:Array Bool}(I:Inv X w0 bs a0 ops l g listed a w){j:Nat}:∀ {f i:Nat},kF ops j f i=true->i<ops.size->lv listed i=true->lv listed j=true
 | 0,i,h,_,_=>by cases h
 | f+1,i,h,hi,hl=>by
  simp only[kF,Bool.or_eq_true,List.any_eq_true,List.mem_range,Bool.and_eq_true] at h;rcases h with h|⟨k,hk,h1,h2⟩
  ·exact I.shut i j hi hl h
  ·exact I.deep h2 ae (I.shut i k hi hl h1)
theorem tM {a0:Act} {ops:Array Oper} {l:List Kd} {g:Nat->Nat} (ho:iq ops a0.tmps.size=true):∀ n,(iT a0 ops l g n).tmps.size=a0.tmps.size/\(iT a0 ops l g n).defers=a0.defers /\
    ∀ t,(∀ i d,i<n->bX ops i=some d->d=t->(iT a0 ops l g n).tmps[t]?=some (((l[i]?).map (Kd.value g i)).getD undef))/\((∀ i,i<n->bX ops i≠some t)->(iT a0 ops l g n).tmps[t]?=a0.tmps[t]?)
 | 0=>⟨rfl,rfl,fun t=>⟨fun i d hi=>absurd hi ae,fun _=>rfl⟩⟩
 | n+1=>by
  obtain⟨h1,h2,h3⟩:=tM ho n (l:=l) (g:=g);refine⟨by show((iT a0 ops l g n).put _ _).tmps.size=_;rw[Act.rB,h1],by show((iT a0 ops l g n).put _ _).defers=_;rw[Act.uw,h2],fun t=>⟨fun i d hi hd e=>?_,fun h=>?_⟩⟩
  ·subst e;show((iT a0 ops l g n).put _ _).tmps[d]?=_;rw[Act.ia];by_cases e:i=n
   ·subst e;rw[if_pos ⟨hd,by rw[h1];exact Bi ho hd⟩]
   ·rw[if_neg (fun h=>e (uK ho hd h.1))];exact(h3 d).1 i d ae hd rfl
  ·show((iT a0 ops l g n).put _ _).tmps[t]?=_;rw[Act.ia,if_neg (fun h2=>h n ae h2.1)];exact(h3 t).2 (fun i hi=>h i ae)
theorem Px{ops:Array Oper}{n:Nat}{listed:Array Bool}(ho:iq ops n=true)(hr:Region.ready .any ops listed=[]):∀ i,i<ops.size->lv listed i=true:=by
 intro i;induction i using Nat.strongRecOn with
 | ind i ih =>
  intro hi;cases h:lv listed i with
  | true=>rfl
  | false =>
   exfalso;have:i ∈ Region.ready .any ops listed:=mem_ready.2 ⟨h,ops[i],by simp[hi],fun e he hb=>by
    have aP:=(jB ho (show ops[i]?=some ops[i] by simp[hi])).1 e he hb;have:=ih e.on aP ae;have hs:e.on<listed.size:=by have:=ns h;omega
    simpa[lv,Array.getD,hs] using this⟩
   rw[hr] at this;cases this
end
section
variable {P:Program} {ops:Array Oper} {Q:Exit->Act->World->Prop} {X:World} {bs:List Ob}
theorem Inv.step {w0:World} {a0 a:Act} {l:List Kd} {g:Nat->Nat} {listed:Array Bool} {w:World} {i:Nat}
    (ho:iq ops a0.tmps.size=true) (hk:oj ops bs.length l=true) (ow:∀ ob ∈ bs,X.heap.size<=ob.b/\ob.b<w0.heap.size) (hdis:∀ (n m:Nat) (x y:Ob),n≠m->bs[n]?=some x->bs[m]?=some y->x.b≠y.b) (hX:X.heap.size<=w0.heap.size) (ng:oX P Q X w0 bs ops l a0 (List.range ops.size))
    (I:Inv X w0 bs a0 ops l g listed a w) (hi:i ∈ Region.ready .any ops listed):wpOp P ops Q i (fun a' w'=>∃ g,Inv X w0 bs a0 ops l g (listed.setIfInBounds i true) a' w') a w:=by
 obtain⟨h0,o,Gt,pS⟩:=mem_ready.1 hi;have aP:i<ops.size:=(Array.getElem?_eq_some_iff.1 Gt).1;have hll:=pr hk;have hX0:X.heap.size<=w0.heap.size:=hX;obtain⟨k,lz⟩:∃ k,l[i]?=some k:=⟨l[i]'(by omega),by simp[hll,aP]⟩
 obtain⟨c1,c2,c3,c4,c5⟩:=me hk lz Gt;obtain⟨b1,b2,b3⟩:=jB ho Gt;have SK:bX ops i=o.dst:=by simp[eF,Gt]
 have nj:∀ j,eW ops j i=true->lv listed j=true:=fun j hj=>by
  rw[vX] at hj;rw[Gt] at hj;simp only[Array.any_eq_true',Bool.and_eq_true,beq_iff_eq] at hj;obtain⟨e,he,hb,rfl⟩:=hj;have:=pS e he hb;rcases Nat.lt_or_ge e.on listed.size with h|h
  ·simpa[lv,Array.getD,h] using this
  ·simp[lv,Array.getD,Nat.not_lt.2 h]
 have Ot:∀ {v d},bX ops i=some d->(a.put (bX ops i) v).tmps[d]?=some v:=fun {v d} hd=>by
  rw[Act.ia,if_pos ⟨hd,by rw[I.size];exact Bi ho hd⟩]
 have seen:Seen X w0 bs ops l g i a0 a w:=⟨I.ext,fun t ht=>Act.zj (I.off t ht),⟨fun j hj d hd=>by
  have Gy:=nx ho hj;have D:=I.done j ae (nj j hj);unfold Dn at D;cases Oj:l[j]? with
  | none=>trivial
  | some kj =>
   rw[Oj] at D;have BY:j<ops.size:=ae;cases kj with
   | val u=>exact⟨Act.uJ (D d hd),trivial⟩
   | mem mk z t s=>exact⟨Act.uJ (D.1 d hd),D.2.1,fun e=>by subst e;exact D.2.2⟩
   | put al c =>
    have:=(me hk Oj (show ops[j]?=some ops[j] by simp[BY])).1 al c rfl;simp[eF,BY,this.1] at hd
   | st n =>
    have:=((me hk Oj (show ops[j]?=some ops[j] by simp[BY])).2.2.2.2 n rfl).1;simp[eF,BY,this] at hd
   | off=>exact⟨Act.uJ (D d hd),trivial⟩,I.kept,fun n ob hb hs=>by
    have h:=I.obs n ob hb;have e:ka l (fun s=>lv listed s) n ob=ob.z:=by
     unfold ka;unfold FM at hs;cases e:tX l n with
     | none=>rfl
     | some s =>
      rw[e] at hs;simp only[Option.map_some,Option.getD_some];have tI:s<ops.size:=by rw[← hll];exact(List.getElem?_eq_some_iff.1 (uo e)).1
      have h9:lv listed s=false:=by
       cases h9:lv listed s with
       | false=>rfl
       | true =>
        have:=I.deep hs tI h9;rw[show lv listed i=false from h0] at this;cases this
      exact if_neg (by rw[h9];decide)
    rw[← e];exact h⟩⟩
 have R:Rn P Q bs l g o k a w:=ng.at i (List.mem_range.2 aP) g a w seen o k Gt lz
 -- is it wanted?
 have W:(Region.wanted o (yielded ops a.tmps)=true/\k ≠ .off)∨(Region.wanted o (yielded ops a.tmps)=false/\k = .off):=by
  cases hg:o.guard with
  | none=>exact Or.inl ⟨by simp[Region.wanted,hg],c3 hg⟩
  | some jw =>
   obtain⟨j,want⟩:=jw;obtain⟨hdj,d,hd⟩:=b3 j want hg;have S:=seen.2.2.1 j hdj d hd;have D:=I.done j (by have:=nx ho hdj;omega) (nj j hdj);unfold Dn at D;rcases c4 j want hg with⟨b,hb,h⟩|⟨hb,h⟩
   ·rw[hb] at D;have hy:yielded ops a.tmps j=some b:=by
     have h1:a.tmps[d]?=some (.bool b):=D d hd;have h2:(ops[j]?).bind (·.dst)=some d:=by rw[← eF];exact hd
     simp[yielded,h2,h1]
    rcases h with⟨rfl,c8⟩|⟨c8,rfl⟩
    ·exact Or.inr ⟨by simp[Region.wanted,hg,hy,c8],rfl⟩
    ·exact Or.inl ⟨by simp[Region.wanted,hg,hy],c8⟩
   ·rw[hb] at D;have hy:yielded ops a.tmps j=none:=by
     have h1:a.tmps[d]?=some undef:=D d hd;have h2:(ops[j]?).bind (·.dst)=some d:=by rw[← eF];exact hd
     simp[yielded,h2,h1,undef]
    exact Or.inr ⟨by simp[Region.wanted,hg,hy],h⟩
 refine wpOp_step Gt fun K' LV=>?_
 rcases W with⟨hw,c8⟩|⟨hw,rfl⟩
 ·rw[if_pos hw];cases k with
  | off=>exact absurd rfl c8
  | val v =>
   refine R K' fun w' hx=>LV _ _ ⟨g,?_⟩
   rw[← SK];have np:∀ j c,l[i]?≠some (.put j c):=fun j c e=>by rw[lz] at e;cases e
   exact Inv.next ho I aP (I.ext.trans hx) (Nat.le_trans I.size0 hx.size) (fun _ _ _ _ _ hB=>hB.ext hx) (fun n _ _ hB=>by rw[kG (by rw[lz];simp)];exact hB.ext hx) (fun _ _=>rfl) (by unfold Dn;rw[lz];exact fun d hd=>Ot hd)
    (fun j _ _ _ mk z t s _ _ hB=>by rw[og (np j)];exact hB.ext hx) (fun⟨_,_,_,_,e⟩=>by rw[lz] at e;cases e) nj
  | mem mk z t s =>
   refine R K' (LV _ _ ⟨fun j=>if j=i then w.heap.size else g j,?_⟩);rw[← SK];have np:∀ j c,l[i]?≠some (.put j c):=fun j c e=>by rw[lz] at e;cases e
   refine Inv.next ho I aP (I.ext.alloc _) (Nat.le_trans I.size0 (by simp)) (fun _ _ _ _ _ hB=>hB.alloc _) (fun n _ _ hB=>by rw[kG (by rw[lz];simp)];exact hB.alloc _) (fun j hj=>if_neg hj) ?_ (fun j _ _ _ mk z t s _ _ hB=>by rw[og (np j)];exact hB.alloc _) ?_ nj
   ·unfold Dn;rw[lz];simp only[if_true];refine⟨fun d hd=>Ot hd,I.size0,?_⟩;have e:(if (s.map fun s=>lv (listed.setIfInBounds i true) s).getD false then Kd.cells l z i s else z)=z:=by
     cases s with
     | none=>rfl
     | some s =>
      simp only[Option.map_some,Option.getD_some,mX];by_cases hL:(lv listed s || (s == i))=true
      ·rw[if_pos hL];refine tO fun c e=>?_
       have tI:s<ops.size:=by rw[← hll];exact(List.getElem?_eq_some_iff.1 e).1
       have h2:=(me hk e (show ops[s]?=some ops[s] by simp[tI])).1 i c rfl;have qbA:s≠i:=by have:=nx ho h2.2.1;omega
       have LS:lv listed s=true:=by simpa[qbA] using hL
       have h3:=I.shut s i tI LS h2.2.1;rw[h0] at h3;cases h3
      ·rw[if_neg hL]
    rw[e];exact ay.new w z t
   ·intro _ j hj QR hl ⟨mk',z',t',s',e⟩;simp only[if_true];have D:=I.done j hj hl;unfold Dn at D;rw[e] at D;have:=D.2.2.lt;omega
  | put al c =>
   obtain⟨hd0,hal,mk,z,t,e⟩:=c1 al c rfl;have Uu:=nj al hal;have qbY:al<ops.size:=by have:=nx ho hal;omega
   have D:=I.done al qbY Uu;unfold Dn at D;rw[e] at D;have hz:(if ((some i).map fun s=>lv listed s).getD false then Kd.cells l z al (some i) else z)=z:=by
    have h9:lv listed i=false:=h0;simp only[Option.map_some,Option.getD_some,h9];rfl
   have hB:=D.2.2;rw[hz] at hB;refine R z t hB ⟨mk,some i,e⟩ K' fun w' hO hN=>LV _ _ ⟨g,?_⟩
   rw[← SK];refine Inv.next ho I aP (hO.2.1 _ (Nat.le_trans hX0 D.2.1) I.ext) (by rw[hO.2.2];exact I.size0) (fun k _ _ _ hk hB=>hO.1 k _ _ ae hB) (fun n ob hb hB=>by rw[kG (by rw[lz];simp)];exact hO.1 _ _ _ (by have:=(ow ob (List.mem_of_getElem? hb)).2;omega) hB) (fun _ _=>rfl) (by unfold Dn;rw[lz];trivial) ?_ (fun⟨_,_,_,_,e⟩=>by rw[lz] at e;cases e) nj;intro j hj QR hl mk' z' t' s' e' _ hBj;by_cases ej:j=al
   ·subst ej;rw[e] at e';simp only[Option.some.injEq,Kd.mem.injEq] at e';obtain⟨rfl,rfl,rfl,rfl⟩:=e';have:now l z j (some i) (fun k=>lv (listed.setIfInBounds i true) k)=c:=by
     unfold now;simp[Kd.cells,lz]
    rw[this];exact hN
   ·have np:∀ c',l[i]?≠some (.put j c'):=fun c' e2=>by rw[lz] at e2;simp only[Option.some.injEq,Kd.put.injEq] at e2;exact ej e2.1.symm
    rw[og np];exact hO.1 _ _ _ (I.apart j al ej hj qbY hl Uu ⟨_,_,_,_,e'⟩ ⟨_,_,_,_,e⟩) hBj
  | st n =>
   obtain⟨hd0,jK,hn⟩:=c5 n rfl;obtain⟨ob,hb⟩:∃ ob,bs[n]?=some ob:=⟨bs[n],by simp[hn]⟩
   have hbo:=ow ob (List.mem_of_getElem? hb);have h9:lv listed i=false:=h0;have hBz:=I.obs n ob hb;have ez:ka l (fun s=>listed.getD s true) n ob=ob.z:=by
    unfold ka;rw[jK];simp only[Option.map_some,Option.getD_some,h9];rfl
   rw[ez] at hBz;refine R ob hb hBz K' fun w' hO hN=>LV _ _ ⟨g,?_⟩
   rw[← SK];have np:∀ j c,l[i]?≠some (.put j c):=fun j c e=>by rw[lz] at e;cases e
   refine Inv.next ho I aP (hO.2.1 _ hbo.1 I.ext) (by rw[hO.2.2];exact I.size0) (fun k _ _ hk _ hB=>hO.1 k _ _ (fun e=>hk ob (List.mem_of_getElem? hb) e.symm) hB) ?_ (fun _ _=>rfl) (by unfold Dn;rw[lz];trivial) ?_ (fun⟨_,_,_,_,e⟩=>by rw[lz] at e;cases e) nj
   ·intro m ob' nN hB;by_cases em:m=n
    ·subst em;obtain rfl:ob'=ob:=Option.some.inj (nN.symm.trans hb);have:ka l (fun s=>lv (listed.setIfInBounds i true) s) m ob'=ob'.c:=by
      unfold ka;rw[jK];simp only[Option.map_some,Option.getD_some,mX,beq_self_eq_true,Bool.or_true];rfl
     rw[this];exact hN
    ·rw[kG (by rw[lz];intro e;simp only[Option.some.injEq,Kd.st.injEq] at e;exact em e.symm)];exact hO.1 _ _ _ (hdis m n _ _ em nN hb) hB
   ·intro j hj QR hl mk' z' t' s' e' kx hBj;rw[og (np j)];exact hO.1 _ _ _ ae hBj
 ·rw[if_neg (by rw[hw];decide)];refine LV _ _ ⟨g,?_⟩;rw[← SK];have np:∀ j c,l[i]?≠some (.put j c):=fun j c e=>by rw[lz] at e;cases e
  exact Inv.next ho I aP I.ext I.size0 (fun _ _ _ _ _ hB=>hB) (fun n _ _ hB=>by rw[kG (by rw[lz];simp)];exact hB) (fun _ _=>rfl) (by unfold Dn;rw[lz];exact fun d hd=>Ot hd)
   (fun j _ _ _ mk z t s _ _ hB=>by rw[og (np j)];exact hB) (fun⟨_,_,_,_,e⟩=>by rw[lz] at e;cases e) nj
def ke(P:Program)(Q:Exit->Act->World->Prop)(X w0:World)(bs:List Ob)(ops:Array Oper)(l:List Kd)(a0:Act):Nat->List Oper->List Kd->Prop
 | i,o :: os,k :: ks=>(∀ (g:Nat->Nat) (a:Act) (w:World),Seen X w0 bs ops l g i a0 a w->Rn P Q bs l g o k a w)/\ke P Q X w0 bs ops l a0 (i+1) os ks
 | _,_,_=>True
theorem ke.cons {w0:World} {l:List Kd} {a0:Act} {i:Nat} {o:Oper} {os:List Oper} {k:Kd} {ks:List Kd}
    (h:∀ (g:Nat->Nat) (a:Act) (w:World),Seen X w0 bs ops l g i a0 a w->Rn P Q bs l g o k a w) (hs:ke P Q X w0 bs ops l a0 (i+1) os ks):ke P Q X w0 bs ops l a0 i (o :: os) (k :: ks):=⟨h,hs⟩
theorem ke.nil{w0:World}{l:List Kd}{a0:Act}{i:Nat}:ke P Q X w0 bs ops l a0 i [] []:=trivial
theorem ke.all{w0:World}{l:List Kd}{a0:Act}:∀ {i:Nat} {os:List Oper} {ks:List Kd},(∀ j,ops[i+j]?=os[j]?)->(∀ j,l[i+j]?=ks[j]?)->os.length=ks.length->ke P Q X w0 bs ops l a0 i os ks->oX P Q X w0 bs ops l a0 (List.range' i os.length)
 | i,[],_,_,_,_,_=>trivial
 | i,o :: os,[],_,_,hl,_=>by simp at hl
 | i,o :: os,k :: ks,ho,hk,hl,h=>by
  rw[List.length_cons,List.range'_succ];refine⟨fun g a w s=>?_,ke.all (fun j=>?_) (fun j=>?_) (by simpa using hl) h.2⟩
  ·have e1:ops[i]?=some o:=by simpa using ho 0
   have e2:l[i]?=some k:=by simpa using hk 0
   rw[e1,e2];exact h.1 g a w s
  ·have:=ho (j+1);simpa[Nat.add_assoc,Nat.add_comm 1 j] using this
  ·have:=hk (j+1);simpa[Nat.add_assoc,Nat.add_comm 1 j] using this
theorem oX.cons {w0:World} {l:List Kd} {a0:Act} {i:Nat} {o:Oper} {k:Kd} {is:List Nat} (ho:ops[i]?=some o) (hk:l[i]?=some k)
    (h:∀ (g:Nat->Nat) (a:Act) (w:World),Seen X w0 bs ops l g i a0 a w->Rn P Q bs l g o k a w) (hs:oX P Q X w0 bs ops l a0 is):oX P Q X w0 bs ops l a0 (i :: is) :=
 ⟨fun g a w s=>by rw[ho,hk];exact h g a w s,hs⟩
theorem oX.nil{w0:World}{l:List Kd}{a0:Act}:oX P Q X w0 bs ops l a0 []:=trivial
theorem Rn.st {l:List Kd} {g:Nat->Nat} {o:Oper} {n:Nat} {ob:Ob} {a:Act} {w:World} (hb:bs[n]?=some ob)
    (h:ay w ob.b ob.z ob.t->∀ K:Act->World->Prop,Hid (∀ w',yw ob.b w w'->ay w' ob.b ob.c ob.t->K (a.put o.dst undef) w')->o.wp P a w K Q):Rn P Q bs l g o (.st n) a w:=fun ob' nN hB K hK=>by
 obtain rfl:ob'=ob:=Option.some.inj (nN.symm.trans hb);exact h hB K (ai hK)
theorem Rn.val{l:List Kd}{g:Nat->Nat}{o:Oper}{v:Value}{a:Act}{w:World}(h:∀ K:Act->World->Prop,Hid (∀ w',Ext w w'->K (a.put o.dst v) w')->o.wp P a w K Q):Rn P Q bs l g o (.val v) a w:=fun K hK=>h K (ai hK)
theorem Rn.mem{l:List Kd}{g:Nat->Nat}{o:Oper}{mk:Nat->Value}{z:Array Value}{t:TypeId}{s:Option Nat}{a:Act}{w:World}(h:∀ K:Act->World->Prop,Hid (K (a.put o.dst (mk w.heap.size)) (w.alloc (.cells z t)))->o.wp P a w K Q):Rn P Q bs l g o (.mem mk z t s) a w:=fun K hK=>h K (ai hK)
theorem Rn.put {l:List Kd} {g:Nat->Nat} {o:Oper} {al:Nat} {c z:Array Value} {t:TypeId} {mk:Nat->Value} {s:Option Nat} {a:Act} {w:World} (hl:l[al]?=some (.mem mk z t s))
    (h:ay w (g al) z t->∀ K:Act->World->Prop,Hid (∀ w',yw (g al) w w'->ay w' (g al) c t->K (a.put o.dst undef) w')->o.wp P a w K Q):Rn P Q bs l g o (.put al c) a w:=fun z' t' hB ⟨_,_,e⟩ K hK=>by
 rw[hl] at e;simp only[Option.some.injEq,Kd.mem.injEq] at e;obtain⟨_,rfl,rfl,_⟩:=e;exact h hB K (ai hK)
theorem Rn.off{l:List Kd}{g:Nat->Nat}{o:Oper}{a:Act}{w:World}:Rn P Q bs l g o .off a w:=trivial
def WW(ops:Array Oper)(t:Nat):Bool:=ops.toList.all fun o=>o.dst != some t
theorem Act.raw{a:Act}{t:Nat}{v:Value}(h:a.eval (.tmp t)=v):a.tmps[t]?.getD undef=v:=by
 rw[← h];simp[Act.eval,Array.getD_eq_getD_getElem?]
theorem Seen.old{w0:World}{l:List Kd}{g:Nat->Nat}{i:Nat}{a0 a:Act}{w:World}(h:Seen X w0 bs ops l g i a0 a w)(t:Nat)(ht:WW ops t=true):a.tmps[t]?.getD undef=a0.eval (.tmp t) :=
 Act.raw <| h.2.1 t fun j e=>by
  have hj:=kE e;have e':bX ops j=ops[j].dst:=by simp[eF,hj]
  have:=(List.all_eq_true.1 ht) ops[j] (by simp);rw[← e',e] at this;simp at this
theorem Seen.val{w0:World}{l:List Kd}{g:Nat->Nat}{i:Nat}{a0 a:Act}{w:World}{v:Value}{d:Nat}(h:Seen X w0 bs ops l g i a0 a w)(j:Nat)(hj:eW ops j i=true)(hd:bX ops j=some d)(hk:l[j]?=some (.val v)):a.tmps[d]?.getD undef=v:=by
 have:=h.2.2.1 j hj d hd;rw[hk] at this;exact Act.raw this.1
theorem Seen.mem {w0:World} {l:List Kd} {g:Nat->Nat} {i:Nat} {a0 a:Act} {w:World} {mk:Nat->Value} {z:Array Value} {t:TypeId} {s:Option Nat} {d:Nat} (h:Seen X w0 bs ops l g i a0 a w) (j:Nat) (hj:eW ops j i=true) (hd:bX ops j=some d) (hk:l[j]?=some (.mem mk z t s)) :
    a.tmps[d]?.getD undef=mk (g j)/\w0.heap.size<=g j/\(s=none->ay w (g j) z t):=by
 have:=h.2.2.1 j hj d hd;rw[hk] at this;exact⟨Act.raw this.1,this.2⟩
theorem Seen.un{w0:World}{l:List Kd}{g:Nat->Nat}{i:Nat}{a0 a:Act}{w:World}{d:Nat}(h:Seen X w0 bs ops l g i a0 a w)(j:Nat)(hj:eW ops j i=true)(hd:bX ops j=some d)(hk:l[j]?=some .off):a.tmps[d]?.getD undef=undef:=by
 have:=h.2.2.1 j hj d hd;rw[hk] at this;exact Act.raw this.1
theorem Seen.Xi{w0:World}{l:List Kd}{g:Nat->Nat}{i:Nat}{a0 a:Act}{w:World}(h:Seen X w0 bs ops l g i a0 a w){k:Nat}{cs:Array Value}{t:TypeId}(hk:∀ ob ∈ bs,ob.b≠k)(hB:ay w0 k cs t):ay w k cs t:=h.2.2.2.1 k cs t hk hB
theorem Seen.ob{w0:World}{l:List Kd}{g:Nat->Nat}{i:Nat}{a0 a:Act}{w:World}(h:Seen X w0 bs ops l g i a0 a w)(n:Nat){ob:Ob}(hb:bs[n]?=some ob)(hs:FM ops l i n=true):ay w ob.b ob.z ob.t:=h.2.2.2.2 n ob hb hs
theorem fm0{k:Nat}:∀ ob ∈ ([]:List Ob),ob.b≠k:=fun _ h=>by cases h
theorem fm2{k:Nat}{o:Ob}{os:List Ob}(h:o.b≠k)(hs:∀ ob ∈ os,ob.b≠k):∀ ob ∈ o :: os,ob.b≠k:=fun ob hm=>by
 rcases List.mem_cons.1 hm with rfl|hm
 ·exact h
 ·exact hs ob hm
def b7(a:Act):List (Option Tmp × Value)->Act
 | []=>a
 | (d,v) :: r=>b7 (a.put d v) r
def fs(g:Nat->Nat):Nat->List Oper->List Kd->List (Option Tmp × Value)
 | i,o :: os,k :: ks=>(o.dst,k.value g i) :: fs g (i+1) os ks
 | _,_,_=>[]
theorem sS(a:Act)(d:Option Tmp)(v:Value):∀ r:List (Option Tmp × Value),b7 a (r ++ [(d,v)])=(b7 a r).put d v
 | []=>rfl
 | (_,_) :: r=>sS _ d v r
theorem DT {g:Nat->Nat} {l:List Kd}:∀ {i:Nat} {os:List Oper} {ks:List Kd},(∀ j,ops.toList[i+j]?=os[j]?)->(∀ j,l[i+j]?=ks[j]?)->os.length=ks.length ->
    fs g i os ks=(List.range' i os.length).map fun i=>(bX ops i,((l[i]?).map (Kd.value g i)).getD undef)
 | i,[],[],_,_,_=>rfl
 | i,[],_ :: _,_,_,h=>by simp at h
 | i,_ :: _,[],_,_,h=>by simp at h
 | i,o :: os,k :: ks,ho,hk,hl=>by
  have e1:ops.toList[i]?=some o:=by simpa using ho 0
  have e2:l[i]?=some k:=by simpa using hk 0
  rw[List.length_cons,List.range'_succ,List.map_cons,← DT (l:=l) (os:=os) (ks:=ks) (fun j=>by have:=ho (j+1);rw[show i+1+j=i+(j+1) by omega,this];rfl) (fun j=>by have:=hk (j+1);rw[show i+1+j=i+(j+1) by omega,this];rfl) (by simpa using hl)];simp[fs,bX,e1,e2]
theorem tN{a0:Act}{l:List Kd}{g:Nat->Nat}:∀ n,iT a0 ops l g n=b7 a0 ((List.range n).map fun i=>(bX ops i,((l[i]?).map (Kd.value g i)).getD undef))
 | 0=>rfl
 | n+1=>by
  rw[List.range_succ,List.map_append,List.map_cons,List.map_nil,sS,← tN n];rfl
theorem C4 {id:Nat} {a0:Act} {w:World} (l:List Kd) {is:List Nat} (hm:P.follows .mixedOrders=true) (ho:iq ops a0.tmps.size=true) (hk:oj ops bs.length l=true) (hX:Ext X w.drew) (ow:∀ ob ∈ bs,X.heap.size<=ob.b/\ay w.drew ob.b ob.z ob.t) (hdis:∀ (n m:Nat) (x y:Ob),n≠m->bs[n]?=some x->bs[m]?=some y->x.b≠y.b) (his:List.range ops.size=is)
    (ng:oX P Q X w.drew bs ops l a0 is)
    (hend:∀ (g:Nat->Nat) (w':World),Ext X w'->(∀ k cs t,(∀ ob ∈ bs,ob.b≠k)->ay w.drew k cs t->ay w' k cs t)->(∀ n ob,bs[n]?=some ob->ay w' ob.b (if (tX l n).isSome then ob.c else ob.z) ob.t)->(∀ i mk z t s,l[i]?=some (.mem mk z t s)->w.heap.size<=g i/\ay w' (g i) (Kd.cells l z i s) t) ->
     (∀ i j,i≠j->(∃ mk z t s,l[i]?=some (.mem mk z t s))->(∃ mk z t s,l[j]?=some (.mem mk z t s))->g i≠g j)->Q .normal (iT a0 ops l g ops.size) w') :
    (Code.region id ops true).wp P Q a0 w:=by
 subst his;refine wp_region_any hm (sF (fun listed a w'=>∃ g,Inv X w.drew bs a0 ops l g listed a w') ?_ ?_ ops.size _ a0 w.drew (by simp) ?_ ⟨fun _=>0,?_⟩)
 ·intro listed a w1 i _ ⟨g,I⟩ hi;exact I.step ho hk (fun ob h=>⟨(ow ob h).1,(ow ob h).2.lt⟩) hdis hX.size ng hi
 ·intro listed a w1 hs ⟨g,I⟩ hr;have up:=Px ho hr;have ll:=pr hk;have ea:a=iT a0 ops l g ops.size:=by
   obtain⟨f1,f2,f3⟩:=tM ho ops.size (l:=l) (g:=g);have et:a.tmps=(iT a0 ops l g ops.size).tmps:=by
    apply Array.ext_getElem?;intro t;by_cases h:∃ i,bX ops i=some t
    ·obtain⟨i,hi⟩:=h;have rU:=kE hi;rw[(f3 t).1 i t rU hi rfl];have D:=I.done i rU (up i rU);unfold Dn at D;obtain⟨k,lz⟩:∃ k,l[i]?=some k:=⟨l[i]'(by omega),by simp[ll,rU]⟩
     rw[lz] at D ⊢;cases k with
     | val u=>exact D t hi
     | mem mk z t' s=>exact D.1 t hi
     | put al c =>
      have:=(me hk lz (show ops[i]?=some ops[i] by simp[rU])).1 al c rfl;simp[eF,rU,this.1] at hi
     | st n =>
      have:=((me hk lz (show ops[i]?=some ops[i] by simp[rU])).2.2.2.2 n rfl).1;simp[eF,rU,this] at hi
     | off=>exact D t hi
    ·have h':∀ i,bX ops i≠some t:=fun i e=>h ⟨i,e⟩
     rw[I.off t h',(f3 t).2 (fun i _=>h' i)]
   have ed:a.defers=(iT a0 ops l g ops.size).defers:=I.defers.trans f2.symm;cases a;simp only at et ed;rw[et,ed]
  rw[ea];refine hend g w1 I.ext I.kept ?_ ?_ ?_
  ·intro n ob hb;have h:=I.obs n ob hb;have e:ka l (fun s=>listed.getD s true) n ob=if (tX l n).isSome then ob.c else ob.z:=by
    unfold ka;cases e:tX l n with
    | none=>rfl
    | some s =>
     have hs:s<ops.size:=by rw[← ll];exact(List.getElem?_eq_some_iff.1 (uo e)).1
     have:=up s hs;simp only[Option.map_some,Option.getD_some,Option.isSome_some,if_true];rw[if_pos this]
   rw[← e];exact h
  ·intro i mk z t s e;have rU:i<ops.size:=by rw[← ll];exact(List.getElem?_eq_some_iff.1 e).1
   have D:=I.done i rU (up i rU);unfold Dn at D;rw[e] at D;refine⟨D.2.1,?_⟩;have hB:=D.2.2;have e2:(if (s.map fun s=>lv listed s).getD false then Kd.cells l z i s else z)=Kd.cells l z i s:=by
    cases s with
    | none=>rfl
    | some s =>
     by_cases SH:s<ops.size
     ·simp only[Option.map_some,Option.getD_some,up s SH,if_true]
     ·have h9:l[s]?=none:=by simp[ll];omega
      simp[Kd.cells,h9]
   rw[e2] at hB;exact hB
  ·intro i j Gz hi hj;have rU:i<ops.size:=by obtain⟨_,_,_,_,e⟩:=hi;rw[← ll];exact(List.getElem?_eq_some_iff.1 e).1
   have Gy:j<ops.size:=by obtain⟨_,_,_,_,e⟩:=hj;rw[← ll];exact(List.getElem?_eq_some_iff.1 e).1
   exact I.apart i j Gz rU Gy (up i rU) (up j Gy) hi hj
 ·exact Nat.le_trans List.countP_le_length (by simp)
 ·exact { ext:=hX,size0:=Nat.le_refl _,kept:=fun _ _ _ _ h=>h,obs:=fun n ob hb=>(by
   have h:=(ow ob (List.mem_of_getElem? hb)).2;have e:ka l (fun s=>(Array.replicate ops.size false).getD s true) n ob=ob.z:=by
    unfold ka;cases e:tX l n with
    | none=>rfl
    | some s =>
     have hs:s<ops.size:=by rw[← pr hk];exact(List.getElem?_eq_some_iff.1 (uo e)).1
     simp[hs]
   rw[e];exact h),defers:=rfl,size:=rfl,off:=fun _ _=>rfl,done:=fun i hi h=>(by simp[hi] at h),apart:=fun i j _ hi _ h=>(by simp[hi] at h),shut:=fun i j hi h=>(by simp[hi] at h) }
theorem rv {os:List Oper} {id:Nat} {a0:Act} {w:World} (bs:List Ob) (l:List Kd) (hm:P.follows .mixedOrders=true) (ho:iq os.toArray a0.tmps.size=true) (hk:oj os.toArray bs.length l=true)
    (hX:Ext X w.drew) (ow:∀ ob ∈ bs,X.heap.size<=ob.b/\ay w.drew ob.b ob.z ob.t) (hdis:∀ (n m:Nat) (x y:Ob),n≠m->bs[n]?=some x->bs[m]?=some y->x.b≠y.b)
    (ng:ke P Q X w.drew bs os.toArray l a0 0 os l)
    (hend:∀ (g:Nat->Nat) (w':World),Ext X w'->(∀ k cs t,(∀ ob ∈ bs,ob.b≠k)->ay w.drew k cs t->ay w' k cs t)->(∀ n ob,bs[n]?=some ob->ay w' ob.b (if (tX l n).isSome then ob.c else ob.z) ob.t) ->
     (∀ i mk z t s,l[i]?=some (.mem mk z t s)->w.drew.heap.size<=g i/\ay w' (g i) (Kd.cells l z i s) t) ->
     (∀ i j,i≠j->(∃ mk z t s,l[i]?=some (.mem mk z t s))->(∃ mk z t s,l[j]?=some (.mem mk z t s))->g i≠g j)->Q .normal (b7 a0 (fs g 0 os l)) w') :
    (Code.region id os.toArray true).wp P Q a0 w:=by
 have hl:=pr hk;refine C4 l hm ho hk hX ow hdis rfl ?_ (fun g w' a b b2 c d=>?_)
 case refine_2 =>
  have:=hend g w' a b b2 c d;rw[DT (ops:=os.toArray) (l:=l) (fun j=>by simp) (fun j=>by simp) (by simpa using hl.symm),← List.range_eq_range',← tN] at this;simpa using this
 have:=ke.all (fun j=>by simp) (fun j=>by simp) (by simpa using hl.symm) ng;rwa[← List.range_eq_range'] at this
theorem vI {os:List Oper} {id:Nat} {a0:Act} {w:World} (l:List Kd) (hm:P.follows .mixedOrders=true) (ho:iq os.toArray a0.tmps.size=true) (hk:qbb os.toArray l=true)
    (ng:ke P Q w.drew w.drew [] os.toArray l a0 0 os l)
    (hend:∀ (g:Nat->Nat) (w':World),Ext w.drew w'->(∀ i mk z t s,l[i]?=some (.mem mk z t s)->w.drew.heap.size<=g i/\ay w' (g i) (Kd.cells l z i s) t) ->
     (∀ i j,i≠j->(∃ mk z t s,l[i]?=some (.mem mk z t s))->(∃ mk z t s,l[j]?=some (.mem mk z t s))->g i≠g j)->Q .normal (b7 a0 (fs g 0 os l)) w') :
    (Code.region id os.toArray true).wp P Q a0 w :=
 rv [] l hm ho hk (Ext.refl _) (fun _ h=>by cases h) (fun _ _ _ _ _ h=>by simp at h) ng (fun g w' a _ _ c d=>hend g w' a c d)
theorem qhm{o:Ob}:∀ (n m:Nat) (x y:Ob),n≠m->[o][n]?=some x->[o][m]?=some y->x.b≠y.b:=fun n m x y h hx hy=>by
 cases n with
 | zero =>
  cases m with
  | zero=>exact absurd rfl h
  | succ m=>simp at hy
 | succ n=>simp at hx
end
structure Mv(X w:World)(S:Nat->Prop)(W:World):Prop where
 ext:Ext X W
 base:X.heap.size<=w.heap.size
 low:∀ k,S k->X.heap.size<=k
 size:w.heap.size<=W.heap.size
 fr:∀ k cs t,¬ S k->ay w k cs t->ay W k cs t
section
variable {X w W W':World} {S S':Nat->Prop}
theorem Mv.refl(hX:Ext X w)(hS:∀ k,S k->X.heap.size<=k):Mv X w S w:=⟨hX,hX.size,hS,Nat.le_refl _,fun _ _ _ _ h=>h⟩
theorem Mv.trans(h:Mv X w S W)(e:Ext W W'):Mv X w S W':=⟨h.ext.trans e,h.base,h.low,Nat.le_trans h.size e.size,fun k cs t hk hB=>(h.fr k cs t hk hB).ext e⟩
theorem Mv.alloc(h:Mv X w S W)(o:Obj):Mv X w S (W.alloc o):=h.trans ((Ext.refl _).alloc o)
theorem Mv.drew(h:Mv X w S W):Mv X w S W.drew:=h.trans (Ext.refl _).drew
theorem Mv.setCell(h:Mv X w S W){p:Addr}(hp:S p.block∨w.heap.size<=p.block)(u:Value):Mv X w S (W.setCell p u) :=
 ⟨h.ext.setCell (hp.elim (h.low _) (fun e=>Nat.le_trans h.base e)) u,h.base,h.low,by rw[World.size_setCell];exact h.size,fun k cs t hk hB=>(h.fr k cs t hk hB).other u (fun e=>hp.elim (fun hs=>hk (e▸hs)) (fun hs=>by have:=hB.lt;omega))⟩
theorem Mv.comp(h:Mv X w S W)(k:Mv X W S' W')(hs:∀ k,S' k->S k∨w.heap.size<=k):Mv X w S W' :=
 ⟨k.ext,h.base,h.low,Nat.le_trans h.size k.size,fun q cs t hq hB=>k.fr q cs t (fun h'=>(hs q h').elim hq (fun e=>by have:=hB.lt;omega)) (h.fr q cs t hq hB)⟩
theorem Mv.mono(h:Mv X w S W)(hs:∀ k,S k->S' k)(hl:∀ k,S' k->X.heap.size<=k):Mv X w S' W:=⟨h.ext,h.base,hl,h.size,fun k cs t hk hB=>h.fr k cs t (fun h'=>hk (hs k h')) hB⟩
theorem Mv.aH(h:Mv X w S W){k:Nat}{cs:Array Value}{t:TypeId}(hB:ay w k cs t)(hk:¬ S k):ay W k cs t:=h.fr k cs t hk hB
theorem Mv.none(h:Mv w w (fun _=>False) W):Ext w W:=h.ext
end
inductive Ke where
 | val (v:Value)
 | ch
 | off
 | ev (v:Value)
def Ke.known:Ke->Option Value
 | .val v=>some v
 | .ev v=>some v
 | _=>none
def up(L:Nat->Bool)(i:Nat):Nat->Bool:=fun s=>L s || (s == i)
def ug(g:Nat->Value)(i:Nat)(v:Value):Nat->Value:=fun j=>if j=i then v else g j
theorem bB{L:Nat->Bool}{i j:Nat}(h:i≠j):up L i j=L j:=by
 unfold up;have:(j == i)=false:=by simpa using fun e=>h e.symm
 rw[this,Bool.or_false]
theorem bS(L:Nat->Bool)(i:Nat):up L i i=true:=by simp[up]
theorem bE{g:Nat->Value}{i j:Nat}{v:Value}(h:i≠j):ug g i v j=g j:=if_neg fun e=>h e.symm
theorem cT(g:Nat->Value)(i:Nat)(v:Value):ug g i v i=v:=if_pos rfl
def wu(ops:Array Oper)(l:List Ke):Bool :=
 l.length == ops.size && (List.range l.length).all fun i=>match l[i]?,ops[i]? with
  | some k, some o => (match o.guard with
      | none => (match k with
          | .off=>false
          | _=>true)
      | some (j, want) => (match l[j]? with
          | some (.val (.bool b)) => (match k with
              | .off=>b != want
              | _=>b == want)
          | some .off => (match k with
              | .off=>true
              | _=>false)
          | _=>false))
  | _,_=>false
theorem sY{ops:Array Oper}{l:List Ke}(h:wu ops l=true):l.length=ops.size:=by
 simp only[wu,Bool.and_eq_true,beq_iff_eq] at h;exact h.1
theorem NQ {ops:Array Oper} {l:List Ke} (h:wu ops l=true) {i:Nat} {k:Ke} {o:Oper} (hk:l[i]?=some k) (ho:ops[i]?=some o) :
    (o.guard=none->k ≠ .off)/\(∀ j want,o.guard=some (j,want)->(∃ b,l[j]?=some (.val (.bool b))/\((k = .off/\b≠want)∨(k ≠ .off/\b=want)))∨(l[j]?=some .off/\k = .off)):=by
 simp only[wu,Bool.and_eq_true,beq_iff_eq] at h;have:=List.all_eq_true.1 h.2 i (by simpa using(List.getElem?_eq_some_iff.1 hk).1);simp only[hk,ho] at this;refine⟨fun hg e=>?_,fun j want hg=>?_⟩
 ·subst e;simp[hg] at this
 ·simp only[hg] at this;cases hj:l[j]? with
  | none=>simp[hj] at this
  | some kj =>
   simp only[hj] at this;cases kj with
   | off=>cases k <;> simp at this ⊢
   | ch=>cases k <;> simp at this
   | ev _=>cases k <;> simp at this
   | val v =>
    cases v with
    | bool b =>
     refine Or.inl ⟨b,rfl,?_⟩;cases k with
     | off=>exact Or.inl ⟨rfl,by simpa using this⟩
     | val _=>exact Or.inr ⟨by simp,by simpa using this⟩
     | ch=>exact Or.inr ⟨by simp,by simpa using this⟩
     | ev _=>exact Or.inr ⟨by simp,by simpa using this⟩
    | _=>simp at this
section
variable {P:Program} {Q:Exit->Act->World->Prop} {X w0:World} {S:Nat->Prop} {E:(Nat->Bool)->(Nat->Value)->World->Prop} {ops:Array Oper} {l:List Ke} {a0:Act}
structure Hr(X w0:World)(S:Nat->Prop)(E:(Nat->Bool)->(Nat->Value)->World->Prop)(a0:Act)(ops:Array Oper)(l:List Ke)(g:Nat->Value)(listed:Array Bool)(a:Act)(w:World):Prop where
 mv:Mv X w0 S w
 e:E (lv listed) g w
 defers:a.defers=a0.defers
 size:a.tmps.size=a0.tmps.size
 off:∀ t,(∀ i,bX ops i=some t->lv listed i=false)->a.tmps[t]?=a0.tmps[t]?
 done:∀ i,i<ops.size->lv listed i=true->Hd ops i a (g i)/\(∀ v,(l[i]?).bind Ke.known=some v->g i=v)/\(l[i]?=some .off->g i=undef)
 shut:∀ i j,i<ops.size->lv listed i=true->eW ops j i=true->lv listed j=true
theorem Hr.deep{g:Nat->Value}{listed:Array Bool}{a:Act}{w:World}(I:Hr X w0 S E a0 ops l g listed a w){j:Nat}:∀ {f i:Nat},kF ops j f i=true->i<ops.size->lv listed i=true->lv listed j=true
 | 0,i,h,_,_=>by cases h
 | f+1,i,h,hi,hl=>by
  simp only[kF,Bool.or_eq_true,List.any_eq_true,List.mem_range,Bool.and_eq_true] at h;rcases h with h|⟨k,hk,h1,h2⟩
  ·exact I.shut i j hi hl h
  ·exact I.deep h2 ae (I.shut i k hi hl h1)
structure cO(X w0:World)(S:Nat->Prop)(E:(Nat->Bool)->(Nat->Value)->World->Prop)(ops:Array Oper)(l:List Ke)(g:Nat->Value)(L:Nat->Bool)(i:Nat)(a0 a:Act)(w:World):Prop where
 mv:Mv X w0 S w
 e:E L g w
 out:∀ t,(∀ j,bX ops j=some t->L j=false)->a.eval (.tmp t)=a0.eval (.tmp t)
 dep:∀ j,eW ops j i=true->∀ d,bX ops j=some d->a.eval (.tmp d)=g j
 vals:∀ j v,eW ops j i=true->(l[j]?).bind Ke.known=some v->g j=v
 offs:∀ j,eW ops j i=true->l[j]?=some .off->g j=undef
 yes:∀ j,kF ops j ops.size i=true->L j=true
 no:∀ j,j<ops.size->kF ops i ops.size j=true->L j=false
 not:L i=false
def fl(P:Program)(Q:Exit->Act->World->Prop)(X w0:World)(S:Nat->Prop)(E:(Nat->Bool)->(Nat->Value)->World->Prop)(L:Nat->Bool)(g:Nat->Value)(i:Nat)(o:Oper)(k:Ke)(a:Act)(w:World):Prop :=
 match k with
 | .val v=>∀ K:Act->World->Prop,(∀ w',Ext w w'->K (a.put o.dst v) w')->o.wp P a w K Q
 | .ch=>∀ K:Act->World->Prop,(∀ v w',Mv X w0 S w'->E (up L i) (ug g i v) w'->K (a.put o.dst v) w')->o.wp P a w K Q
 | .ev v=>∀ K:Act->World->Prop,(∀ w',Mv X w0 S w'->E (up L i) (ug g i v) w'->K (a.put o.dst v) w')->o.wp P a w K Q
 | .off=>True
def aN(P:Program)(Q:Exit->Act->World->Prop)(X w0:World)(S:Nat->Prop)(E:(Nat->Bool)->(Nat->Value)->World->Prop)(ops:Array Oper)(l:List Ke)(a0:Act):Nat->List Oper->List Ke->Prop
 | i,o :: os,k :: ks=>(∀ (L:Nat->Bool) (g:Nat->Value) (a:Act) (w:World),cO X w0 S E ops l g L i a0 a w->fl P Q X w0 S E L g i o k a w)/\aN P Q X w0 S E ops l a0 (i+1) os ks
 | _,_,_=>True
theorem aN.cons {i:Nat} {o:Oper} {os:List Oper} {k:Ke} {ks:List Ke}
    (h:∀ (L:Nat->Bool) (g:Nat->Value) (a:Act) (w:World),cO X w0 S E ops l g L i a0 a w->fl P Q X w0 S E L g i o k a w) (hs:aN P Q X w0 S E ops l a0 (i+1) os ks):aN P Q X w0 S E ops l a0 i (o :: os) (k :: ks):=⟨h,hs⟩
theorem aN.nil{i:Nat}:aN P Q X w0 S E ops l a0 i [] []:=trivial
theorem RV {i:Nat} {o:Oper} {os:List Oper} {v:Value} {ks:List Ke}
    (h:∀ {L:Nat->Bool} {g:Nat->Value} {w:World} (a:Act),cO X w0 S E ops l g L i a0 a w->∀ K:Act->World->Prop,Hid (∀ w',Ext w w'->K (a.put o.dst v) w')->o.wp P a w K Q) (hs:aN P Q X w0 S E ops l a0 (i+1) os ks):aN P Q X w0 S E ops l a0 i (o :: os) (.val v :: ks):=⟨fun _ _ a _ s K hK=>h a s K (ai hK),hs⟩
theorem RO{i:Nat}{o:Oper}{os:List Oper}{ks:List Ke}(hs:aN P Q X w0 S E ops l a0 (i+1) os ks):aN P Q X w0 S E ops l a0 i (o :: os) (.off :: ks):=⟨fun _ _ _ _ _=>trivial,hs⟩
theorem du{K:Act->World->Prop}{a:Act}{w:World}(h:Hid (∀ w',Ext w w'->K a w')):K a w:=h.out _ (Ext.refl _)
theorem aN.at:∀ {i:Nat} {os:List Oper} {ks:List Ke},aN P Q X w0 S E ops l a0 i os ks->∀ j o k,os[j]?=some o->ks[j]?=some k->∀ (L:Nat->Bool) (g:Nat->Value) (a:Act) (w:World),cO X w0 S E ops l g L (i+j) a0 a w->fl P Q X w0 S E L g (i+j) o k a w
 | i,o :: os,k :: ks,h,0,o',k',ho,hk=>by
  simp only[List.getElem?_cons_zero,Option.some.injEq] at ho hk;subst ho;subst hk;exact h.1
 | i,o :: os,k :: ks,h,j+1,o',k',ho,hk=>by
  have:=h.2.at j o' k' (by simpa using ho) (by simpa using hk);rwa[show i+1+j=i+(j+1) by omega] at this
 | i,[],_,_,j,o',k',ho,hk=>by simp at ho
 | i,_ :: _,[],_,j,o',k',ho,hk=>by simp at hk
theorem fl.val{L:Nat->Bool}{g:Nat->Value}{i:Nat}{o:Oper}{v:Value}{a:Act}{w:World}(h:∀ K:Act->World->Prop,Hid (∀ w',Ext w w'->K (a.put o.dst v) w')->o.wp P a w K Q):fl P Q X w0 S E L g i o (.val v) a w:=fun K hK=>h K (ai hK)
theorem fl.ch{L:Nat->Bool}{g:Nat->Value}{i:Nat}{o:Oper}{a:Act}{w:World}(h:∀ K:Act->World->Prop,Hid (∀ v w',Mv X w0 S w'->E (up L i) (ug g i v) w'->K (a.put o.dst v) w')->o.wp P a w K Q):fl P Q X w0 S E L g i o .ch a w:=fun K hK=>h K (ai hK)
theorem fl.ev{L:Nat->Bool}{g:Nat->Value}{i:Nat}{o:Oper}{v:Value}{a:Act}{w:World}(h:∀ K:Act->World->Prop,Hid (∀ w',Mv X w0 S w'->E (up L i) (ug g i v) w'->K (a.put o.dst v) w')->o.wp P a w K Q):fl P Q X w0 S E L g i o (.ev v) a w:=fun K hK=>h K (ai hK)
theorem fl.off{L:Nat->Bool}{g:Nat->Value}{i:Nat}{o:Oper}{a:Act}{w:World}:fl P Q X w0 S E L g i o .off a w:=trivial
def notYet(ops:Array Oper)(i t:Nat):Bool:=(List.range ops.size).all fun j=>bX ops j != some t || j == i || kF ops i ops.size j
theorem cO.old{g:Nat->Value}{L:Nat->Bool}{i:Nat}{a:Act}{w:World}(h:cO X w0 S E ops l g L i a0 a w)(t:Nat)(ht:notYet ops i t=true:=by kernel_rfl):a.tmps[t]?.getD undef=a0.eval (.tmp t) :=
 Act.raw <| h.out t fun j e=>by
  have hj:=kE e;have:=(List.all_eq_true.1 ht) j (by simpa using hj);simp only[e,bne_self_eq_false,Bool.false_or,Bool.or_eq_true,beq_iff_eq] at this;rcases this with h1|h1
  ·rw[h1];exact h.not
  ·exact h.no j hj h1
theorem cO.is{g:Nat->Value}{L:Nat->Bool}{i:Nat}{a:Act}{w:World}(h:cO X w0 S E ops l g L i a0 a w)(t:Nat)(v:Value)(e:a0.eval (.tmp t) = v:=by exact rfl)(ht:notYet ops i t=true:=by kernel_rfl):a.tmps[t]?.getD undef = v:=(h.old t ht).trans e
theorem cO.val{g:Nat->Value}{L:Nat->Bool}{i:Nat}{a:Act}{w:World}{v:Value}{d:Nat}(h:cO X w0 S E ops l g L i a0 a w)(j:Nat)(hj:eW ops j i=true:=by rfl)(hd:bX ops j=some d:=by rfl)(hk:l[j]?=some (.val v):=by rfl):a.tmps[d]?.getD undef=v:=by
 rw[Act.raw (h.dep j hj d hd)];exact h.vals j v hj (by rw[hk];rfl)
theorem cO.ev{g:Nat->Value}{L:Nat->Bool}{i:Nat}{a:Act}{w:World}{v:Value}{d:Nat}(h:cO X w0 S E ops l g L i a0 a w)(j:Nat)(hj:eW ops j i=true:=by rfl)(hd:bX ops j=some d:=by rfl)(hk:l[j]?=some (.ev v):=by rfl):a.tmps[d]?.getD undef=v:=by
 rw[Act.raw (h.dep j hj d hd)];exact h.vals j v hj (by rw[hk];rfl)
theorem cO.ch{g:Nat->Value}{L:Nat->Bool}{i:Nat}{a:Act}{w:World}{d:Nat}(h:cO X w0 S E ops l g L i a0 a w)(j:Nat)(hj:eW ops j i=true:=by rfl)(hd:bX ops j=some d:=by rfl):a.tmps[d]?.getD undef=g j:=Act.raw (h.dep j hj d hd)
theorem cO.un{g:Nat->Value}{L:Nat->Bool}{i:Nat}{a:Act}{w:World}{d:Nat}(h:cO X w0 S E ops l g L i a0 a w)(j:Nat)(hj:eW ops j i=true:=by rfl)(hd:bX ops j=some d:=by rfl)(hk:l[j]?=some .off:=by rfl):a.tmps[d]?.getD undef=undef:=by
 rw[Act.raw (h.dep j hj d hd)];exact h.offs j hj hk
-- the usual operation of a drawn region: what it reads,by number (R1,R2),as it was (RI),by terms (J1 .. J4);the walk's simp does the rest. What comes next stands ahead of what Lean finds by itself
theorem R1 {i : Nat} {o : Oper} {os : List Oper} {v : Value} {ks : List Ke} {u : Value} {d : Nat} (j : Nat) (hs : aN P Q X w0 S E ops l a0 (i + 1) os ks) (hj : eW ops j i = true := by rfl) (hd : bX ops j = some d := by rfl) (hk : l[j]? = some (.val u) := by rfl)
    (h:∀ (a:Act) (w:World),a.tmps[d]?.getD undef=u->∀ K:Act->World->Prop,Hid (∀ w',Ext w w'->K (a.put o.dst v) w')->o.wp P a w K Q:=by intro A_ W_ q_ K_ aL;go_simp;exact du aL):aN P Q X w0 S E ops l a0 i (o :: os) (.val v :: ks) :=
 RV (fun a s K hK=>h a _ (s.val j hj hd hk) K hK) hs
theorem R2 {i : Nat} {o : Oper} {os : List Oper} {v : Value} {ks : List Ke} {u u' : Value} {d d' : Nat} (j j' : Nat) (hs : aN P Q X w0 S E ops l a0 (i + 1) os ks) (hj : eW ops j i = true := by rfl) (hd : bX ops j = some d := by rfl) (hk : l[j]? = some (.val u) := by rfl)
    (hj':eW ops j' i=true:=by rfl) (hd':bX ops j'=some d':=by rfl) (KW:l[j']?=some (.val u'):=by rfl)
    (h:∀ (a:Act) (w:World),a.tmps[d]?.getD undef=u->a.tmps[d']?.getD undef=u'->∀ K:Act->World->Prop,Hid (∀ w',Ext w w'->K (a.put o.dst v) w')->o.wp P a w K Q:=by intro A_ W_ q_ q'_ K_ aL;go_simp;exact du aL):aN P Q X w0 S E ops l a0 i (o :: os) (.val v :: ks) :=
 RV (fun a s K hK=>h a _ (s.val j hj hd hk) (s.val j' hj' hd' KW) K hK) hs
theorem RI {i : Nat} {o : Oper} {os : List Oper} {v : Value} {ks : List Ke} (t : Nat) (u : Value) (hs : aN P Q X w0 S E ops l a0 (i + 1) os ks) (e : a0.eval (.tmp t) = u := by exact rfl) (ht : notYet ops i t = true := by kernel_rfl)
    (h:∀ (a:Act) (w:World),a.tmps[t]?.getD undef=u->∀ K:Act->World->Prop,Hid (∀ w',Ext w w'->K (a.put o.dst v) w')->o.wp P a w K Q:=by intro A_ W_ q_ K_ aL;go_simp;exact du aL):aN P Q X w0 S E ops l a0 i (o :: os) (.val v :: ks) :=
 RV (fun a s K hK=>h a _ ((s.old t ht).trans e) K hK) hs
theorem J1 {i:Nat} {o:Oper} {os:List Oper} {v:Value} {ks:List Ke} {C0:Act->World->Prop} (c0:∀ {L:Nat->Bool} {g:Nat->Value} {a:Act} {w:World},cO X w0 S E ops l g L i a0 a w->C0 a w) (hs:aN P Q X w0 S E ops l a0 (i+1) os ks)
    (h:∀ (a:Act) (w:World),C0 a w->∀ K:Act->World->Prop,Hid (∀ w',Ext w w'->K (a.put o.dst v) w')->o.wp P a w K Q:=by intro A_ W_ T8 K_ aL;go_simp;exact du aL):aN P Q X w0 S E ops l a0 i (o :: os) (.val v :: ks) :=
 RV (fun a s K hK=>h a _ (c0 s) K hK) hs
theorem J2 {i:Nat} {o:Oper} {os:List Oper} {v:Value} {ks:List Ke} {C0 C1:Act->World->Prop} (c0:∀ {L:Nat->Bool} {g:Nat->Value} {a:Act} {w:World},cO X w0 S E ops l g L i a0 a w->C0 a w) (c1:∀ {L:Nat->Bool} {g:Nat->Value} {a:Act} {w:World},cO X w0 S E ops l g L i a0 a w->C1 a w) (hs:aN P Q X w0 S E ops l a0 (i+1) os ks)
    (h:∀ (a:Act) (w:World),C0 a w->C1 a w->∀ K:Act->World->Prop,Hid (∀ w',Ext w w'->K (a.put o.dst v) w')->o.wp P a w K Q:=by intro A_ W_ T8 T7 K_ aL;go_simp;exact du aL):aN P Q X w0 S E ops l a0 i (o :: os) (.val v :: ks) :=
 RV (fun a s K hK=>h a _ (c0 s) (c1 s) K hK) hs
theorem J3 {i:Nat} {o:Oper} {os:List Oper} {v:Value} {ks:List Ke} {C0 C1 C2:Act->World->Prop} (c0:∀ {L:Nat->Bool} {g:Nat->Value} {a:Act} {w:World},cO X w0 S E ops l g L i a0 a w->C0 a w) (c1:∀ {L:Nat->Bool} {g:Nat->Value} {a:Act} {w:World},cO X w0 S E ops l g L i a0 a w->C1 a w) (c2:∀ {L:Nat->Bool} {g:Nat->Value} {a:Act} {w:World},cO X w0 S E ops l g L i a0 a w->C2 a w) (hs:aN P Q X w0 S E ops l a0 (i+1) os ks)
    (h:∀ (a:Act) (w:World),C0 a w->C1 a w->C2 a w->∀ K:Act->World->Prop,Hid (∀ w',Ext w w'->K (a.put o.dst v) w')->o.wp P a w K Q:=by intro A_ W_ T8 T7 Nf K_ aL;go_simp;exact du aL):aN P Q X w0 S E ops l a0 i (o :: os) (.val v :: ks) :=
 RV (fun a s K hK=>h a _ (c0 s) (c1 s) (c2 s) K hK) hs
theorem J4 {i:Nat} {o:Oper} {os:List Oper} {v:Value} {ks:List Ke} {C0 C1 C2 C3:Act->World->Prop} (c0:∀ {L:Nat->Bool} {g:Nat->Value} {a:Act} {w:World},cO X w0 S E ops l g L i a0 a w->C0 a w) (c1:∀ {L:Nat->Bool} {g:Nat->Value} {a:Act} {w:World},cO X w0 S E ops l g L i a0 a w->C1 a w) (c2:∀ {L:Nat->Bool} {g:Nat->Value} {a:Act} {w:World},cO X w0 S E ops l g L i a0 a w->C2 a w) (c3:∀ {L:Nat->Bool} {g:Nat->Value} {a:Act} {w:World},cO X w0 S E ops l g L i a0 a w->C3 a w) (hs:aN P Q X w0 S E ops l a0 (i+1) os ks)
    (h:∀ (a:Act) (w:World),C0 a w->C1 a w->C2 a w->C3 a w->∀ K:Act->World->Prop,Hid (∀ w',Ext w w'->K (a.put o.dst v) w')->o.wp P a w K Q:=by intro A_ W_ T8 T7 Nf Z6 K_ aL;go_simp;exact du aL):aN P Q X w0 S E ops l a0 i (o :: os) (.val v :: ks) :=
 RV (fun a s K hK=>h a _ (c0 s) (c1 s) (c2 s) (c3 s) K hK) hs
theorem K1 {i : Nat} {o : Oper} {os : List Oper} {v : Value} {ks : List Ke} {f : FuncId} {ar : Array Value} {C0 : Act -> World -> Prop} (c0 : ∀ {L : Nat -> Bool} {g : Nat -> Value} {a : Act} {w : World}, cO X w0 S E ops l g L i a0 a w -> C0 a w) (x : ∀ {L : Nat -> Bool} {g : Nat -> Value} {a : Act} {w : World}, cO X w0 S E ops l g L i a0 a w -> Calls P f ar w (fun e w' => e = .returned v /\ Ext w w')) (hs : aN P Q X w0 S E ops l a0 (i + 1) os ks)
    (h:∀ (a:Act) (w:World),C0 a w->Hid (Calls P f ar w (fun e w'=>e = .returned v/\Ext w w'))->∀ K:Act->World->Prop,Hid (∀ w',Ext w w'->K (a.put o.dst v) w')->o.wp P a w K Q:=by intro A_ W_ T8 x_ K_ aL;go_simp;refine x_.out.mono ?_;rintro e jG ⟨rfl,ft⟩;exact aL.o _ ft):aN P Q X w0 S E ops l a0 i (o :: os) (.val v :: ks) :=
 RV (fun a s K hK=>h a _ (c0 s) (ai (x s)) K hK) hs
theorem K2 {i : Nat} {o : Oper} {os : List Oper} {v : Value} {ks : List Ke} {f : FuncId} {ar : Array Value} {C0 C1 : Act -> World -> Prop} (c0 : ∀ {L : Nat -> Bool} {g : Nat -> Value} {a : Act} {w : World}, cO X w0 S E ops l g L i a0 a w -> C0 a w) (c1 : ∀ {L : Nat -> Bool} {g : Nat -> Value} {a : Act} {w : World}, cO X w0 S E ops l g L i a0 a w -> C1 a w) (x : ∀ {L : Nat -> Bool} {g : Nat -> Value} {a : Act} {w : World}, cO X w0 S E ops l g L i a0 a w -> Calls P f ar w (fun e w' => e = .returned v /\ Ext w w')) (hs : aN P Q X w0 S E ops l a0 (i + 1) os ks)
    (h:∀ (a:Act) (w:World),C0 a w->C1 a w->Hid (Calls P f ar w (fun e w'=>e = .returned v/\Ext w w'))->∀ K:Act->World->Prop,Hid (∀ w',Ext w w'->K (a.put o.dst v) w')->o.wp P a w K Q:=by intro A_ W_ T8 T7 x_ K_ aL;go_simp;refine x_.out.mono ?_;rintro e jG ⟨rfl,ft⟩;exact aL.o _ ft):aN P Q X w0 S E ops l a0 i (o :: os) (.val v :: ks) :=
 RV (fun a s K hK=>h a _ (c0 s) (c1 s) (ai (x s)) K hK) hs
theorem K3 {i : Nat} {o : Oper} {os : List Oper} {v : Value} {ks : List Ke} {f : FuncId} {ar : Array Value} {C0 C1 C2 : Act -> World -> Prop} (c0 : ∀ {L : Nat -> Bool} {g : Nat -> Value} {a : Act} {w : World}, cO X w0 S E ops l g L i a0 a w -> C0 a w) (c1 : ∀ {L : Nat -> Bool} {g : Nat -> Value} {a : Act} {w : World}, cO X w0 S E ops l g L i a0 a w -> C1 a w) (c2 : ∀ {L : Nat -> Bool} {g : Nat -> Value} {a : Act} {w : World}, cO X w0 S E ops l g L i a0 a w -> C2 a w) (x : ∀ {L : Nat -> Bool} {g : Nat -> Value} {a : Act} {w : World}, cO X w0 S E ops l g L i a0 a w -> Calls P f ar w (fun e w' => e = .returned v /\ Ext w w')) (hs : aN P Q X w0 S E ops l a0 (i + 1) os ks)
    (h:∀ (a:Act) (w:World),C0 a w->C1 a w->C2 a w->Hid (Calls P f ar w (fun e w'=>e = .returned v/\Ext w w'))->∀ K:Act->World->Prop,Hid (∀ w',Ext w w'->K (a.put o.dst v) w')->o.wp P a w K Q:=by intro A_ W_ T8 T7 Nf x_ K_ aL;go_simp;refine x_.out.mono ?_;rintro e jG ⟨rfl,ft⟩;exact aL.o _ ft):aN P Q X w0 S E ops l a0 i (o :: os) (.val v :: ks) :=
 RV (fun a s K hK=>h a _ (c0 s) (c1 s) (c2 s) (ai (x s)) K hK) hs
theorem M1 {i : Nat} {o : Oper} {os : List Oper} {v : Value} {ks : List Ke} {f : FuncId} {ar : Array Value} {C0 : Act -> World -> Prop} (c0 : ∀ {L : Nat -> Bool} {g : Nat -> Value} {a : Act} {w : World}, cO X w0 S E ops l g L i a0 a w -> C0 a w) (x : ∀ {L : Nat -> Bool} {g : Nat -> Value} {a : Act} {w : World}, cO X w0 S E ops l g L i a0 a w -> Calls P f ar w (fun e w' => e = .returned v /\ w = w')) (hs : aN P Q X w0 S E ops l a0 (i + 1) os ks)
    (h:∀ (a:Act) (w:World),C0 a w->Hid (Calls P f ar w (fun e w'=>e = .returned v/\w=w'))->∀ K:Act->World->Prop,Hid (∀ w',Ext w w'->K (a.put o.dst v) w')->o.wp P a w K Q:=by intro A_ W_ T8 x_ K_ aL;go_simp;refine x_.out.mono ?_;rintro e _ ⟨rfl,rfl⟩;exact du aL):aN P Q X w0 S E ops l a0 i (o :: os) (.val v :: ks) :=
 RV (fun a s K hK=>h a _ (c0 s) (ai (x s)) K hK) hs
theorem M2 {i : Nat} {o : Oper} {os : List Oper} {v : Value} {ks : List Ke} {f : FuncId} {ar : Array Value} {C0 C1 : Act -> World -> Prop} (c0 : ∀ {L : Nat -> Bool} {g : Nat -> Value} {a : Act} {w : World}, cO X w0 S E ops l g L i a0 a w -> C0 a w) (c1 : ∀ {L : Nat -> Bool} {g : Nat -> Value} {a : Act} {w : World}, cO X w0 S E ops l g L i a0 a w -> C1 a w) (x : ∀ {L : Nat -> Bool} {g : Nat -> Value} {a : Act} {w : World}, cO X w0 S E ops l g L i a0 a w -> Calls P f ar w (fun e w' => e = .returned v /\ w = w')) (hs : aN P Q X w0 S E ops l a0 (i + 1) os ks)
    (h:∀ (a:Act) (w:World),C0 a w->C1 a w->Hid (Calls P f ar w (fun e w'=>e = .returned v/\w=w'))->∀ K:Act->World->Prop,Hid (∀ w',Ext w w'->K (a.put o.dst v) w')->o.wp P a w K Q:=by intro A_ W_ T8 T7 x_ K_ aL;go_simp;refine x_.out.mono ?_;rintro e _ ⟨rfl,rfl⟩;exact du aL):aN P Q X w0 S E ops l a0 i (o :: os) (.val v :: ks) :=
 RV (fun a s K hK=>h a _ (c0 s) (c1 s) (ai (x s)) K hK) hs
theorem cd{L:Nat->Bool}(i j:Nat)(h:i≠j:=by decide):up L i j=L j:=bB h
theorem cf{g:Nat->Value}{v:Value}(i j:Nat)(h:i≠j:=by decide):ug g i v j=g j:=bE h
def Ke.value(g:Nat->Value)(i:Nat):Ke->Value
 | .val v=>v
 | .ch=>g i
 | .off=>undef
 | .ev v=>v
def isVal:Option Ke->Bool
 | some .ch=>false
 | some (.ev _)=>false
 | none=>false
 | _=>true
theorem gJ{l:List Ke}{i k:Nat}(hi:isVal (l[i]?)=true)(hk:isVal (l[k]?)=false):i≠k:=fun e=>by rw[e,hk] at hi;cases hi
def r5(a0:Act)(ops:Array Oper)(l:List Ke)(g:Nat->Value):Nat->Act
 | 0=>a0
 | n+1=>(r5 a0 ops l g n).put (bX ops n) (((l[n]?).map (Ke.value g n)).getD undef)
theorem zh {g:Nat->Value} (ho:iq ops a0.tmps.size=true):∀ n,(r5 a0 ops l g n).tmps.size=a0.tmps.size/\(r5 a0 ops l g n).defers=a0.defers /\
    ∀ t,(∀ i d,i<n->bX ops i=some d->d=t->(r5 a0 ops l g n).tmps[t]?=some (((l[i]?).map (Ke.value g i)).getD undef))/\((∀ i,i<n->bX ops i≠some t)->(r5 a0 ops l g n).tmps[t]?=a0.tmps[t]?)
 | 0=>⟨rfl,rfl,fun t=>⟨fun i d hi=>absurd hi ae,fun _=>rfl⟩⟩
 | n+1=>by
  obtain⟨h1,h2,h3⟩:=zh ho n (g:=g);refine⟨by show((r5 a0 ops l g n).put _ _).tmps.size=_;rw[Act.rB,h1],by show((r5 a0 ops l g n).put _ _).defers=_;rw[Act.uw,h2],fun t=>⟨fun i d hi hd e=>?_,fun h=>?_⟩⟩
  ·subst e;show((r5 a0 ops l g n).put _ _).tmps[d]?=_;rw[Act.ia];by_cases e:i=n
   ·subst e;rw[if_pos ⟨hd,by rw[h1];exact Bi ho hd⟩]
   ·rw[if_neg (fun h=>e (uK ho hd h.1))];exact(h3 d).1 i d ae hd rfl
  ·show((r5 a0 ops l g n).put _ _).tmps[t]?=_;rw[Act.ia,if_neg (fun h2=>h n ae h2.1)];exact(h3 t).2 (fun i hi=>h i ae)
theorem Hr.step {g:Nat->Value} {listed:Array Bool} {a:Act} {w:World} {i:Nat}
    (ho:iq ops a0.tmps.size=true) (hk:wu ops l=true) (hE1:∀ L g w w',E L g w->Ext w w'->E L g w') (hE2:∀ i v L g w,isVal (l[i]?)=true->E L g w->E (up L i) (ug g i v) w)
    (ng:∀ j o k,ops[j]?=some o->l[j]?=some k->∀ (L:Nat->Bool) (g:Nat->Value) (a:Act) (w:World),cO X w0 S E ops l g L j a0 a w->fl P Q X w0 S E L g j o k a w)
    (I:Hr X w0 S E a0 ops l g listed a w) (hi:i ∈ Region.ready .any ops listed):wpOp P ops Q i (fun a' w'=>∃ g,Hr X w0 S E a0 ops l g (listed.setIfInBounds i true) a' w') a w:=by
 obtain⟨h0,o,Gt,pS⟩:=mem_ready.1 hi;have aP:i<ops.size:=(Array.getElem?_eq_some_iff.1 Gt).1;have hll:=sY hk;obtain⟨k,lz⟩:∃ k,l[i]?=some k:=⟨l[i]'(by omega),by simp[hll,aP]⟩
 obtain⟨c3,c4⟩:=NQ hk lz Gt;obtain⟨b1,b2,b3⟩:=jB ho Gt;have SK:bX ops i=o.dst:=by simp[eF,Gt]
 have h9:lv listed i=false:=h0;have nj:∀ j,eW ops j i=true->lv listed j=true:=fun j hj=>by
  rw[vX] at hj;rw[Gt] at hj;simp only[Array.any_eq_true',Bool.and_eq_true,beq_iff_eq] at hj;obtain⟨e,he,hb,rfl⟩:=hj;have:=pS e he hb;rcases Nat.lt_or_ge e.on listed.size with h|h
  ·simpa[lv,Array.getD,h] using this
  ·simp[lv,Array.getD,Nat.not_lt.2 h]
 have Ot:∀ {v d},bX ops i=some d->(a.put (bX ops i) v).tmps[d]?=some v:=fun {v d} hd=>by
  rw[Act.ia,if_pos ⟨hd,by rw[I.size];exact Bi ho hd⟩]
 have seen:cO X w0 S E ops l g (lv listed) i a0 a w:=⟨I.mv,I.e,fun t ht=>Act.zj (I.off t ht),fun j hj d hd=>Act.uJ ((I.done j (by have:=nx ho hj;omega) (nj j hj)).1 d hd),
  fun j v hj hv=>(I.done j (by have:=nx ho hj;omega) (nj j hj)).2.1 v hv,
  fun j hj hv=>(I.done j (by have:=nx ho hj;omega) (nj j hj)).2.2 hv,
  fun j hj=>by
   have:∀ {f:Nat},kF ops j f i=true->lv listed j=true:=fun {f} h=>by
    cases f with
    | zero=>cases h
    | succ f =>
     simp only[kF,Bool.or_eq_true,List.any_eq_true,List.mem_range,Bool.and_eq_true] at h;rcases h with h|⟨q,hq,q1,q2⟩
     ·exact nj j h
     ·exact I.deep q2 (by have:=nx ho q1;omega) (nj q q1)
   exact this hj,
  (fun j hj hd=>by
   cases hL:lv listed j with
   | false=>rfl
   | true=>exact absurd (I.deep hd hj hL) (by rw[h9];decide)),h9⟩
 have R:fl P Q X w0 S E (lv listed) g i o k a w:=ng i o k Gt lz _ g a w seen;have SG:lv (listed.setIfInBounds i true)=up (lv listed) i:=funext fun s=>mX
 have next:∀ v w',Mv X w0 S w'->E (up (lv listed) i) (ug g i v) w'->(∀ u,(l[i]?).bind Ke.known=some u->v=u)->(l[i]?=some .off->v=undef)->Hr X w0 S E a0 ops l (ug g i v) (listed.setIfInBounds i true) (a.put o.dst v) w':=fun v w' hm he Oa pw=>by
  refine⟨hm,by rw[SG];exact he,by rw[Act.uw];exact I.defers,by rw[Act.rB];exact I.size,fun t ht=>?_,fun j hj hl=>?_,fun j q hj hl hd=>?_⟩
  ·rw[Act.ia,if_neg (fun h=>by have:=ht i (by rw[SK];exact h.1);rw[SG,bS] at this;cases this)];refine I.off t (fun j hj=>?_);have:=ht j hj;rw[SG] at this;unfold up at this;simp only[Bool.or_eq_false_iff] at this;exact this.1
  ·by_cases QR:j=i
   ·subst QR;refine⟨fun d hd=>?_,fun u hu=>?_,fun hu=>?_⟩
    ·rw[cT,← SK];exact Ot hd
    ·rw[cT];exact Oa u hu
    ·rw[cT];exact pw hu
   ·rw[SG,bB (fun e=>QR e.symm)] at hl;obtain⟨d1,d2,d3⟩:=I.done j hj hl;rw[bE (fun e=>QR e.symm)];refine⟨fun d hd=>?_,d2,d3⟩;rw[Act.ia,if_neg (fun h=>QR (uK ho hd (by rw[SK];exact h.1)))];exact d1 d hd
  ·rw[SG] at hl ⊢;by_cases hqi:q=i
   ·rw[hqi];exact bS _ _
   ·rw[bB (fun e=>hqi e.symm)];by_cases QR:j=i
    ·exact nj q (QR▸hd)
    ·rw[bB (fun e=>QR e.symm)] at hl;exact I.shut j q hj hl hd
 have Wd:(Region.wanted o (yielded ops a.tmps)=true/\k ≠ .off)∨(Region.wanted o (yielded ops a.tmps)=false/\k = .off):=by
  cases hg:o.guard with
  | none=>exact Or.inl ⟨by simp[Region.wanted,hg],c3 hg⟩
  | some jw =>
   obtain⟨j,want⟩:=jw;obtain⟨hdj,d,hd⟩:=b3 j want hg;obtain⟨D1,D2,D3⟩:=I.done j (by have:=nx ho hdj;omega) (nj j hdj);have h2:(ops[j]?).bind (·.dst)=some d:=by rw[← eF];exact hd
   rcases c4 j want hg with⟨b,hb,h⟩|⟨hb,h⟩
   ·have hy:yielded ops a.tmps j=some b:=by
     have h1:a.tmps[d]?=some (.bool b):=by rw[← D2 (.bool b) (by rw[hb];rfl)];exact D1 d hd
     simp[yielded,h2,h1]
    rcases h with⟨rfl,c8⟩|⟨c8,rfl⟩
    ·exact Or.inr ⟨by simp[Region.wanted,hg,hy,c8],rfl⟩
    ·exact Or.inl ⟨by simp[Region.wanted,hg,hy],c8⟩
   ·have hy:yielded ops a.tmps j=none:=by
     have h1:a.tmps[d]?=some undef:=by rw[← D3 hb];exact D1 d hd
     simp[yielded,h2,h1,undef]
    exact Or.inr ⟨by simp[Region.wanted,hg,hy],h⟩
 refine wpOp_step Gt fun K' LV=>?_
 rcases Wd with⟨hw,c8⟩|⟨hw,rfl⟩
 ·rw[if_pos hw];cases k with
  | off=>exact absurd rfl c8
  | val v =>
   exact R K' fun w' hx=>LV _ _ ⟨ug g i v,next v w' (I.mv.trans hx) (hE1 _ _ _ _ (hE2 i v _ _ _ (by rw[lz];rfl) I.e) hx) (fun u hu=>by rw[lz] at hu;exact Option.some.inj hu) (fun hu=>by rw[lz] at hu;cases hu)⟩
  | ch =>
   exact R K' fun v w' hm he=>LV _ _ ⟨ug g i v,next v w' hm he (fun u hu=>by rw[lz] at hu;cases hu) (fun hu=>by rw[lz] at hu;cases hu)⟩
  | ev v =>
   exact R K' fun w' hm he=>LV _ _ ⟨ug g i v,next v w' hm he (fun u hu=>by rw[lz] at hu;exact Option.some.inj hu) (fun hu=>by rw[lz] at hu;cases hu)⟩
 ·rw[if_neg (by rw[hw];decide)];exact LV _ _ ⟨ug g i undef,next undef w I.mv (hE2 i undef _ _ _ (by rw[lz];rfl) I.e) (fun u hu=>by rw[lz] at hu;cases hu) (fun _=>rfl)⟩
theorem Ku {id : Nat} {w : World} (hm : P.follows .mixedOrders = true) (ho : iq ops a0.tmps.size = true) (hk : wu ops l = true) (hX : Mv X w S w) (hE0 : ∀ g, E (fun s => !decide (s < ops.size)) g w.drew)
    (hE1:∀ L g w w',E L g w->Ext w w'->E L g w') (hE2:∀ i v L g w,isVal (l[i]?)=true->E L g w->E (up L i) (ug g i v) w)
    (ng:∀ j o k,ops[j]?=some o->l[j]?=some k->∀ (L:Nat->Bool) (g:Nat->Value) (a:Act) (w1:World),cO X w S E ops l g L j a0 a w1->fl P Q X w S E L g j o k a w1)
    (hend:∀ (g:Nat->Value) (w':World),Mv X w S w'->E (fun _=>true) g w'->Q .normal (r5 a0 ops l g ops.size) w') :
    (Code.region id ops true).wp P Q a0 w:=by
 refine wp_region_any hm (sF (fun listed a w'=>∃ g,Hr X w S E a0 ops l g listed a w') ?_ ?_ ops.size _ a0 w.drew (by simp) ?_ ⟨fun _=>undef,?_⟩)
 ·intro listed a w1 i _ ⟨g,I⟩ hi;exact I.step ho hk hE1 hE2 ng hi
 ·intro listed a w1 hs ⟨g,I⟩ hr;have up':=Px ho hr;have ll:=sY hk;have ea:a=r5 a0 ops l g ops.size:=by
   obtain⟨f1,f2,f3⟩:=zh (l:=l) (g:=g) ho ops.size;have et:a.tmps=(r5 a0 ops l g ops.size).tmps:=by
    apply Array.ext_getElem?;intro t;by_cases h:∃ i,bX ops i=some t
    ·obtain⟨i,hi⟩:=h;have rU:=kE hi;rw[(f3 t).1 i t rU hi rfl];obtain⟨D1,D2,D3⟩:=I.done i rU (up' i rU);obtain⟨k,lz⟩:∃ k,l[i]?=some k:=⟨l[i]'(by omega),by simp[ll,rU]⟩
     rw[lz];cases k with
     | val u=>rw[D1 t hi,D2 u (by rw[lz];rfl)];rfl
     | ev u=>rw[D1 t hi,D2 u (by rw[lz];rfl)];rfl
     | ch=>rw[D1 t hi];rfl
     | off=>rw[D1 t hi,D3 lz];rfl
    ·have h':∀ i,bX ops i≠some t:=fun i e=>h ⟨i,e⟩
     rw[I.off t (fun i e=>absurd e (h' i)),(f3 t).2 (fun i _=>h' i)]
   have ed:a.defers=(r5 a0 ops l g ops.size).defers:=I.defers.trans f2.symm;cases a;simp only at et ed;rw[et,ed]
  rw[ea];have eL:lv listed=fun _=>true:=funext fun s=>by
   by_cases h:s<ops.size
   ·exact up' s h
   ·have:¬ s<listed.size:=ae;simp[lv,Array.getD,this]
  exact hend g w1 I.mv (eL▸I.e)
 ·exact Nat.le_trans List.countP_le_length (by simp)
 ·have eL:lv (Array.replicate ops.size false)=fun s=>!decide (s<ops.size):=funext fun s=>by
   by_cases h:s<ops.size <;> simp[lv,h]
  exact { mv:=hX.drew,e:=by rw[eL];exact hE0 _,defers:=rfl,size:=rfl,off:=fun _ _=>rfl,done:=fun i hi h=>(by simp[lv,hi] at h),shut:=fun i j hi h=>(by simp[lv,hi] at h) }
def gm(g:Nat->Value):Nat->List Oper->List Ke->List (Option Tmp × Value)
 | i,o :: os,k :: ks=>(o.dst,k.value g i) :: gm g (i+1) os ks
 | _,_,_=>[]
theorem zd {l:List Ke} {g:Nat->Value}:∀ {i:Nat} {os:List Oper} {ks:List Ke},(∀ j,ops.toList[i+j]?=os[j]?)->(∀ j,l[i+j]?=ks[j]?)->os.length=ks.length ->
    gm g i os ks=(List.range' i os.length).map fun i=>(bX ops i,((l[i]?).map (Ke.value g i)).getD undef)
 | i,[],[],_,_,_=>rfl
 | i,[],_ :: _,_,_,h=>by simp at h
 | i,_ :: _,[],_,_,h=>by simp at h
 | i,o :: os,k :: ks,ho,hk,hl=>by
  have e1:ops.toList[i]?=some o:=by simpa using ho 0
  have e2:l[i]?=some k:=by simpa using hk 0
  rw[List.length_cons,List.range'_succ,List.map_cons,← zd (l:=l) (os:=os) (ks:=ks) (fun j=>by have:=ho (j+1);rw[show i+1+j=i+(j+1) by omega,this];rfl) (fun j=>by have:=hk (j+1);rw[show i+1+j=i+(j+1) by omega,this];rfl) (by simpa using hl)];simp[gm,bX,e1,e2]
theorem zi{g:Nat->Value}:∀ n,r5 a0 ops l g n=b7 a0 ((List.range n).map fun i=>(bX ops i,((l[i]?).map (Ke.value g i)).getD undef))
 | 0=>rfl
 | n+1=>by
  rw[List.range_succ,List.map_append,List.map_cons,List.map_nil,sS,← zi n];rfl
theorem aE {os:List Oper} {id:Nat} {a0:Act} {w:World} (l:List Ke) (E:(Nat->Bool)->(Nat->Value)->World->Prop) (hm:P.follows .mixedOrders=true) (ho:iq os.toArray a0.tmps.size=true) (hk:wu os.toArray l=true) (hX:Mv X w S w)
    (hE0:∀ g,E (fun s=>!decide (s<os.toArray.size)) g w.drew) (hE1:∀ L g w w',E L g w->Ext w w'->E L g w') (hE2:∀ i v L g w,isVal (l[i]?)=true->E L g w->E (up L i) (ug g i v) w)
    (ng:aN P Q X w S E os.toArray l a0 0 os l)
    (hend:∀ (g:Nat->Value) (w':World),Mv X w S w'->E (fun _=>true) g w'->Q .normal (b7 a0 (gm g 0 os l)) w') :
    (Code.region id os.toArray true).wp P Q a0 w:=by
 have hl:=sY hk;refine Ku hm ho hk hX hE0 hE1 hE2 (fun j o k hj Oj=>?_) (fun g w' a b=>?_)
 ·have:=ng.at j o k (by simpa using hj) Oj;simpa using this
 ·have:=hend g w' a b;rw[zd (ops:=os.toArray) (l:=l) (fun j=>by simp) (fun j=>by simp) (by simpa using hl.symm),← List.range_eq_range',← zi] at this;simpa using this
end
