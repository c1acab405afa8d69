/- Part 7. -/
import Derived.Test.YtmahadmefplbnaaGreatDoorQTDB
import Derived.Test.YtmahadmefplbnaaGreatDoorQTD4
import Derived.RegionTactic
set_option maxRecDepth 100000
set_option maxHeartbeats 2000000
set_option linter.unusedVariables false
namespace Go.Proofs.YtmahadmefplbnaaGreatDoor
open Go Go.RowKit
section
variable {P:Program} {ops:Array Oper} {Q:Exit->Act->World->Prop} {md:Region.Mode}
theorem gW{l:Array Bool}{i:Nat}(h:l.getD i true=false):i<l.size:=by
 rcases Nat.lt_or_ge i l.size with h'|h'
 ·exact h'
 ·simp[Array.getD,Nat.not_lt.2 h'] at h
theorem count_set{l:List Bool}{i:Nat}(hi:i<l.length)(h:l[i]=false):(l.set i true).countP (fun b=>!b)+1=l.countP (fun b=>!b):=by
 induction l generalizing i with
 | nil=>simp at hi
 | cons b l ih =>
  cases i with
  | zero=>simp at h;subst h;simp
  | succ i =>
   have:=ih (by simpa using hi) (by simpa using h);simp only[List.set_cons_succ,List.countP_cons];omega
theorem ka (Inv:Array Bool->Act->World->Prop)
    (hstep:∀ listed a w i,listed.size=ops.size->Inv listed a w->i ∈ Region.ready md ops listed->wpOp P ops Q i (fun a' w'=>Inv (listed.setIfInBounds i true) a' w') a w)
    (hend:∀ listed a w,listed.size=ops.size->Inv listed a w->Region.ready md ops listed=[]->Q .normal a w) :
    ∀ (fuel:Nat) (listed:Array Bool) (a:Act) (w:World),listed.size=ops.size->listed.toList.countP (fun b=>!b)<=fuel->Inv listed a w->wpAny P md ops Q fuel listed a w
 | 0,listed,a,w,hs,hc,hI=>by
  have hr:Region.ready md ops listed=[]:=by
   rw[List.eq_nil_iff_forall_not_mem];intro i hi;obtain⟨h0,_⟩:=mem_ready.1 hi;have hlt:=gW h0;have:listed[i]=false:=by simpa[Array.getD,hlt] using h0
   have h1:0<listed.toList.countP (fun b=>!b):=List.countP_pos_iff.2 ⟨listed[i],by simp,by simp[this]⟩;omega
  exact⟨hr,hend listed a w hs hI hr⟩
 | fuel+1,listed,a,w,hs,hc,hI=>by
  refine⟨fun hr=>hend listed a w hs hI hr,fun i hi=>?_⟩;obtain⟨h0,_⟩:=mem_ready.1 hi;have hlt:=gW h0;have h1:listed[i]=false:=by simpa[Array.getD,hlt] using h0
  refine wpOp_mono (fun a' w' h=>ka Inv hstep hend fuel _ a' w' (by simpa using hs) ?_ h) (hstep listed a w i hs hI hi);have:=count_set (l:=listed.toList) (i:=i) (by simpa using hlt) (by simpa using h1);simp only[Array.toList_setIfInBounds];omega
inductive Kd where
 | val (v:Value)
 | mem (mk:Nat->Value) (z:Array Value) (t:TypeId) (s:Option Nat)
 | put (al:Nat) (c:Array Value)
 | off
 | st (n:Nat)
structure Ob where
 b:Nat
 z:Array Value
 c:Array Value
 t:TypeId
def kP(l:List Kd)(n:Nat):Option Nat:=(List.range l.length).find? fun i=>match l[i]? with
 | some (.st m)=>m == n
 | _=>false
theorem kV{l:List Kd}{n i:Nat}(h:kP l n=some i):l[i]?=some (.st n):=by
 have:=List.find?_some h;split at this
 ·rename_i m e;have:m=n:=by simpa using this
  rw[e,this]
 ·cases this
def eV(l:List Kd)(L:Nat->Bool)(n:Nat)(o:Ob):Array Value:=if ((kP l n).map L).getD false then o.c else o.z
variable {X:World} {bs:List Ob} {nb:Nat}
def aP(ops:Array Oper)(i:Nat):Option Tmp:=(ops.toList[i]?).bind (·.dst)
def cq(ops:Array Oper)(j i:Nat):Bool:=match ops.toList[i]? with
 | some o=>o.after.toList.any fun e=>Region.binds .any e && e.on == j
 | none=>false
theorem cf(ops:Array Oper)(i:Nat):aP ops i=(ops[i]?).bind (·.dst):=by unfold aP;rw[Array.getElem?_toList]
theorem mw(ops:Array Oper)(j i:Nat):cq ops j i=(match ops[i]? with
 | some o=>o.after.any fun e=>Region.binds .any e && e.on == j
 | none=>false):=by
 unfold cq;rw[Array.getElem?_toList];cases ops[i]? with
 | none=>rfl
 | some o=>simp only[Array.any_toList]
def Kd.cells(l:List Kd)(z:Array Value)(i:Nat):Option Nat->Array Value
 | none=>z
 | some s=>match l[s]? with
  | some (.put al c)=>if al=i then c else z
  | _=>z
def Kd.value(g:Nat->Nat)(i:Nat):Kd->Value
 | .val v=>v
 | .mem mk _ _ _=>mk (g i)
 | _=>undef
def dD(ops:Array Oper)(n:Nat):Bool :=
 (List.range ops.size).all fun i=>match ops[i]? with
  | some o => o.after.all (fun e => !Region.binds .any e || decide (e.on < i)) && (match o.dst with
      | some d=>decide (d<n) && (List.range i).all (fun j=>aP ops j != some d)
      | none=>true) && (match o.guard with
      | some (j,_)=>cq ops j i && (aP ops j).isSome
      | none=>true)
  | none=>false
def fO(ops:Array Oper)(j:Nat):Nat->Nat->Bool
 | 0,_=>false
 | f+1,i=>cq ops j i || (List.range i).any fun k=>cq ops k i && fO ops j f k
def r9(ops:Array Oper)(l:List Kd)(i n:Nat):Bool:=match kP l n with
 | some s=>fO ops i ops.size s
 | none=>true
def iy(ops:Array Oper)(nb:Nat)(l:List Kd):Bool :=
 l.length == ops.size && (List.range l.length).all fun i=>match l[i]?,ops[i]? with
  | some k, some o => (match k with
      | .put al _ => o.dst.isNone && cq ops al i && (match l[al]? with
          | some (.mem _ _ _ (some s))=>s == i
          | _=>false)
      | .mem _ _ _ _=>o.dst.isSome
      | .st n=>o.dst.isNone && kP l n == some i && decide (n<nb)
      | _=>true) && (match o.guard with
      | none => (match k with
          | .off=>false
          | _=>true)
      | some (j, want) => (match l[j]? with
          | some (.val (.bool b)) => (match k with
              | .off=>b != want
              | _=>b == want)
          | some .off => (match k with
              | .off=>true
              | _=>false)
          | _=>false))
  | _,_=>false
abbrev DJ(ops:Array Oper)(l:List Kd):Bool:=iy ops 0 l
def qe(b:Nat)(w w':World):Prop:=(∀ (k:Nat) (cs:Array Value) (t:TypeId),k≠b->ax w k cs t->ax w' k cs t)/\(∀ X:World,X.heap.size<=b->Ext X w->Ext X w')/\w'.heap.size=w.heap.size
theorem qe.refl(b:Nat)(w:World):qe b w w:=⟨fun _ _ _ _ h=>h,fun _ _ h=>h,rfl⟩
theorem qe.set{b:Nat}{w w':World}(h:qe b w w')(o:Nat)(u:Value):qe b w (w'.setCell ⟨b,o,none⟩ u) :=
 ⟨fun k cs t hk hB=>(h.1 k cs t hk hB).other (a:=⟨b,o,none⟩) u hk,fun X hX hE=>(h.2.1 X hX hE).setCell (p:=⟨b,o,none⟩) hX u,(World.size_setCell _ _ _).trans h.2.2⟩
def Hd(ops:Array Oper)(i:Nat)(a:Act)(v:Value):Prop:=∀ d,aP ops i=some d->a.tmps[d]?=some v
def Dn(w0:World)(ops:Array Oper)(l:List Kd)(L:Nat->Bool)(g:Nat->Nat)(i:Nat)(a:Act)(w:World):Prop :=
 match l[i]? with
 | some (.val v)=>Hd ops i a v
 | some (.mem mk z t s)=>Hd ops i a (mk (g i))/\w0.heap.size<=g i/\ax w (g i) (if (s.map L).getD false then Kd.cells l z i s else z) t
 | some (.put _ _)=>True
 | some .off=>Hd ops i a undef
 | some (.st _)=>True
 | none=>True
def Rn(P:Program)(Q:Exit->Act->World->Prop)(bs:List Ob)(l:List Kd)(g:Nat->Nat)(o:Oper)(k:Kd)(a:Act)(w:World):Prop :=
 match k with
 | .val v=>∀ K:Act->World->Prop,(∀ w',Ext w w'->K (a.put o.dst v) w')->o.wp P a w K Q
 | .mem mk z t _=>∀ K:Act->World->Prop,K (a.put o.dst (mk w.heap.size)) (w.alloc (.cells z t))->o.wp P a w K Q
 | .put al c=>∀ z t,ax w (g al) z t->(∃ mk s,l[al]?=some (.mem mk z t s))->∀ K:Act->World->Prop,(∀ w',qe (g al) w w'->ax w' (g al) c t->K (a.put o.dst undef) w')->o.wp P a w K Q
 | .st n=>∀ ob,bs[n]?=some ob->ax w ob.b ob.z ob.t->∀ K:Act->World->Prop,(∀ w',qe ob.b w w'->ax w' ob.b ob.c ob.t->K (a.put o.dst undef) w')->o.wp P a w K Q
 | .off=>True
def Seen(X w0:World)(bs:List Ob)(ops:Array Oper)(l:List Kd)(g:Nat->Nat)(i:Nat)(a0 a:Act)(w:World):Prop :=
 Ext X w/\(∀ t,(∀ j,aP ops j≠some t)->a.eval (.tmp t)=a0.eval (.tmp t)) /\
 (∀ j,cq ops j i=true->∀ d,aP ops j=some d->match l[j]? with
  | some k => a.eval (.tmp d) = k.value g j /\ (match k with
      | .mem _ z t s=>w0.heap.size<=g j/\(s=none->ax w (g j) z t)
      | _=>True)
  | none=>True)/\(∀ k cs t,(∀ ob ∈ bs,ob.b≠k)->ax w0 k cs t->ax w k cs t)/\∀ n ob,bs[n]?=some ob->r9 ops l i n=true->ax w ob.b ob.z ob.t
def iJ(P:Program)(Q:Exit->Act->World->Prop)(X w0:World)(bs:List Ob)(ops:Array Oper)(l:List Kd)(a0:Act):List Nat->Prop
 | []=>True
 | i :: is => (∀ (g : Nat -> Nat) (a : Act) (w : World), Seen X w0 bs ops l g i a0 a w -> match ops[i]?, l[i]? with
     | some o,some k=>Rn P Q bs l g o k a w
     | _,_=>True)/\iJ P Q X w0 bs ops l a0 is
theorem iJ.at {P:Program} {Q:Exit->Act->World->Prop} {w0:World} {ops:Array Oper} {l:List Kd} {a0:Act}:∀ {is:List Nat},iJ P Q X w0 bs ops l a0 is->∀ i ∈ is,∀ (g:Nat->Nat) (a:Act) (w:World),Seen X w0 bs ops l g i a0 a w ->
    ∀ o k,ops[i]?=some o->l[i]?=some k->Rn P Q bs l g o k a w
 | [],_,i,hi=>by cases hi
 | j :: is,h,i,hi=>by
  rcases List.mem_cons.1 hi with rfl|hi
  ·intro g a w hs o k ho hk;have:=h.1 g a w hs;rwa[ho,hk] at this
  ·exact h.2.at i hi
def dU(a0:Act)(ops:Array Oper)(l:List Kd)(g:Nat->Nat):Nat->Act
 | 0=>a0
 | n+1=>(dU a0 ops l g n).put (aP ops n) (((l[n]?).map (Kd.value g n)).getD undef)
structure Inv(X w0:World)(bs:List Ob)(a0:Act)(ops:Array Oper)(l:List Kd)(g:Nat->Nat)(listed:Array Bool)(a:Act)(w:World):Prop where
 ext:Ext X w
 size0:w0.heap.size<=w.heap.size
 kept:∀ k cs t,(∀ ob ∈ bs,ob.b≠k)->ax w0 k cs t->ax w k cs t
 obs:∀ n ob,bs[n]?=some ob->ax w ob.b (eV l (fun s=>listed.getD s true) n ob) ob.t
 defers:a.defers=a0.defers
 size:a.tmps.size=a0.tmps.size
 off:∀ t,(∀ i,aP ops i≠some t)->a.tmps[t]?=a0.tmps[t]?
 done:∀ i,i<ops.size->listed.getD i true=true->Dn w0 ops l (fun s=>listed.getD s true) g i a w
 apart:∀ i j,i≠j->i<ops.size->j<ops.size->listed.getD i true=true->listed.getD j true=true->(∃ mk z t s,l[i]?=some (.mem mk z t s))->(∃ mk z t s,l[j]?=some (.mem mk z t s))->g i≠g j
 shut:∀ i j,i<ops.size->listed.getD i true=true->cq ops j i=true->listed.getD j true=true
theorem fN{ops:Array Oper}{i:Nat}{d:Tmp}(h:aP ops i=some d):i<ops.size:=by
 rw[cf] at h;rcases Nat.lt_or_ge i ops.size with h'|h'
 ·exact h'
 ·simp[h'] at h
theorem eC {ops:Array Oper} {n i:Nat} {o:Oper} (h:dD ops n=true) (hi:ops[i]?=some o) :
    (∀ e ∈ o.after,Region.binds .any e=true->e.on<i)/\(∀ d,o.dst=some d->d<n/\∀ j<i,aP ops j≠some d)/\(∀ j b,o.guard=some (j,b)->cq ops j i=true/\∃ d,aP ops j=some d):=by
 have hlt:=(Array.getElem?_eq_some_iff.1 hi).1;have:=List.all_eq_true.1 h i (by simpa using hlt);simp only[hi,Bool.and_eq_true] at this;obtain⟨⟨h1,h2⟩,h3⟩:=this;refine⟨fun e he hb=>by simpa[hb] using(Array.all_eq_true'.1 h1) e he,fun d hd=>?_,fun j b hg=>?_⟩
 ·rw[hd] at h2;simp only[Bool.and_eq_true,decide_eq_true_eq,List.all_eq_true,List.mem_range,bne_iff_ne] at h2;exact h2
 ·rw[hg] at h3;simp only[Bool.and_eq_true] at h3;exact⟨h3.1,Option.isSome_iff_exists.1 h3.2⟩
theorem lC{ops:Array Oper}{n i j:Nat}{d:Tmp}(h:dD ops n=true)(hi:aP ops i=some d)(hj:aP ops j=some d):i=j:=by
 have hil:=fN hi;have hjl:=fN hj;have ei:aP ops i=ops[i].dst:=by simp[cf,hil]
 have ej:aP ops j=ops[j].dst:=by simp[cf,hjl]
 rcases Nat.lt_trichotomy i j with hlt|rfl|hlt
 ·exact absurd hi (((eC h (show ops[j]?=some ops[j] by simp[hjl])).2.1 d (ej▸hj)).2 i hlt)
 ·rfl
 ·exact absurd hj (((eC h (show ops[i]?=some ops[i] by simp[hil])).2.1 d (ei▸hi)).2 j hlt)
theorem pS{ops:Array Oper}{n i:Nat}{d:Tmp}(h:dD ops n=true)(hi:aP ops i=some d):d<n:=by
 have hil:=fN hi;have ei:aP ops i=ops[i].dst:=by simp[cf,hil]
 exact((eC h (show ops[i]?=some ops[i] by simp[hil])).2.1 d (ei▸hi)).1
theorem gY{ops:Array Oper}{n i j:Nat}(h:dD ops n=true)(hi:cq ops j i=true):j<i/\i<ops.size:=by
 rw[mw] at hi;cases ho:ops[i]? with
 | none=>simp[ho] at hi
 | some o =>
  rw[ho] at hi;simp only[Array.any_eq_true',Bool.and_eq_true,beq_iff_eq] at hi;obtain⟨e,he,hb,rfl⟩:=hi;exact⟨(eC h ho).1 e he hb,(Array.getElem?_eq_some_iff.1 ho).1⟩
theorem iU{ops:Array Oper}{l:List Kd}(h:iy ops nb l=true):l.length=ops.size:=by
 simp only[iy,Bool.and_eq_true,beq_iff_eq] at h;exact h.1
theorem gC {ops:Array Oper} {l:List Kd} (h:iy ops nb l=true) {i:Nat} {k:Kd} {o:Oper} (hk:l[i]?=some k) (ho:ops[i]?=some o) :
    (∀ al c,k = .put al c->o.dst=none/\cq ops al i=true/\∃ mk z t,l[al]?=some (.mem mk z t (some i)))/\(∀ mk z t s,k = .mem mk z t s->o.dst.isSome=true) /\
    (o.guard=none->k ≠ .off)/\(∀ j want,o.guard=some (j,want)->(∃ b,l[j]?=some (.val (.bool b))/\((k = .off/\b≠want)∨(k ≠ .off/\b=want)))∨(l[j]?=some .off/\k = .off)) /\
    ∀ n,k = .st n->o.dst=none/\kP l n=some i/\n<nb:=by
 simp only[iy,Bool.and_eq_true,beq_iff_eq] at h;have:=List.all_eq_true.1 h.2 i (by simpa using(List.getElem?_eq_some_iff.1 hk).1);simp only[hk,ho,Bool.and_eq_true] at this;obtain⟨h1,h2⟩:=this;refine⟨fun al c e=>?_,fun mk z t s e=>?_,fun hg e=>?_,fun j want hg=>?_,fun n e=>?_⟩
 ·subst e;simp only[Bool.and_eq_true] at h1;obtain⟨⟨a,b⟩,c⟩:=h1;refine⟨by simpa using a,b,?_⟩;split at c
  ·rename_i mk z t s e;have:s=i:=by simpa using c
   subst this;exact⟨mk,z,t,e⟩
  ·cases c
 ·subst e;exact h1
 ·subst e;rw[hg] at h2;cases h2
 ·rw[hg] at h2;simp only at h2;split at h2
  ·rename_i b e;refine Or.inl ⟨b,e,?_⟩;cases k <;> simp_all
  ·rename_i e;cases k <;> simp_all
  ·cases h2
 ·subst e;simp only[Bool.and_eq_true,beq_iff_eq,decide_eq_true_eq] at h1;exact⟨by simpa using h1.1.1,h1.1.2,h1.2⟩
theorem Act.dz{a:Act}{d:Option Tmp}{v:Value}{t:Nat}:(a.put d v).tmps[t]?=if d=some t/\t<a.tmps.size then some v else a.tmps[t]?:=by
 cases d with
 | none=>simp[Act.put]
 | some d =>
  simp only[Act.put,Array.getElem?_setIfInBounds,Option.some.injEq];by_cases h:d=t
  ·subst h;by_cases h2:d<a.tmps.size
   ·simp[h2]
   ·simp[h2]
  ·simp[h]
theorem Act.jN{a:Act}{d:Option Tmp}{v:Value}:(a.put d v).tmps.size=a.tmps.size:=by cases d <;> simp[Act.put]
theorem Act.k8{a:Act}{d:Option Tmp}{v:Value}:(a.put d v).defers=a.defers:=by cases d <;> simp[Act.put]
theorem Act.lB{a:Act}{t:Nat}{v:Value}(h:a.tmps[t]?=some v):a.eval (.tmp t)=v:=by
 simp[Act.eval,Array.getD_eq_getD_getElem?,h]
theorem Act.oB{a b:Act}{t:Nat}(h:a.tmps[t]?=b.tmps[t]?):a.eval (.tmp t)=b.eval (.tmp t):=by
 simp[Act.eval,Array.getD_eq_getD_getElem?,h]
abbrev lv(listed:Array Bool)(s:Nat):Bool:=listed.getD s true
theorem gT{listed:Array Bool}{i s:Nat}:lv (listed.setIfInBounds i true) s=(lv listed s || (s == i)):=by
 by_cases h:s=i
 ·subst h;simp only[lv,beq_self_eq_true,Bool.or_true];rw[Array.getD_eq_getD_getElem?,Array.getElem?_setIfInBounds];by_cases h2:s<listed.size
  ·simp[h2]
  ·simp[h2]
 ·simp only[lv,beq_eq_false_iff_ne.2 h,Bool.or_false];exact getD_set_ne true (fun e=>h e.symm)
def now(l:List Kd)(z:Array Value)(i:Nat)(s:Option Nat)(L:Nat->Bool):Array Value:=if (s.map L).getD false then Kd.cells l z i s else z
theorem kK{l:List Kd}{z:Array Value}{j s:Nat}(h:∀ c,l[s]?≠some (.put j c)):Kd.cells l z j (some s)=z:=by
 unfold Kd.cells;simp only;cases e:l[s]? with
 | none=>rfl
 | some k =>
  cases k with
  | put al c =>
   simp only;by_cases e2:al=j
   ·subst e2;exact absurd e (h c)
   ·rw[if_neg e2]
  | _=>rfl
theorem iv {l:List Kd} {z:Array Value} {j i:Nat} {s:Option Nat} {listed:Array Bool} (h:∀ c,l[i]?≠some (.put j c)) :
    now l z j s (fun k=>lv (listed.setIfInBounds i true) k)=now l z j s (fun k=>lv listed k):=by
 unfold now;cases s with
 | none=>rfl
 | some s =>
  simp only[Option.map_some,Option.getD_some,gT];by_cases e:s=i
  ·subst e;have:Kd.cells l z j (some s)=z:=kK h;rw[this];simp
  ·simp[e]
theorem Inv.next {w0:World} {a0 a:Act} {ops:Array Oper} {l:List Kd} {g g':Nat->Nat} {listed:Array Bool} {w w':World} {i:Nat} {v:Value}
    (ho:dD ops a0.tmps.size=true) (I:Inv X w0 bs a0 ops l g listed a w) (hi:i<ops.size)
    (hx:Ext X w') (hs0:w0.heap.size<=w'.heap.size) (hkp:∀ k cs t,(∀ ob ∈ bs,ob.b≠k)->k<w0.heap.size->ax w k cs t->ax w' k cs t)
    (hob:∀ n ob,bs[n]?=some ob->ax w ob.b (eV l (fun s=>lv listed s) n ob) ob.t->ax w' ob.b (eV l (fun s=>lv (listed.setIfInBounds i true) s) n ob) ob.t) (hg:∀ j,j≠i->g' j=g j)
    (hD:Dn w0 ops l (fun s=>lv (listed.setIfInBounds i true) s) g' i (a.put (aP ops i) v) w')
    (hp:∀ j,j<ops.size->j≠i->lv listed j=true->∀ mk z t s,l[j]?=some (.mem mk z t s)->w0.heap.size<=g j->ax w (g j) (now l z j s (fun k=>lv listed k)) t->ax w' (g j) (now l z j s (fun k=>lv (listed.setIfInBounds i true) k)) t)
    (ha:(∃ mk z t s,l[i]?=some (.mem mk z t s))->∀ j,j<ops.size->j≠i->lv listed j=true->(∃ mk z t s,l[j]?=some (.mem mk z t s))->g' i≠g j)
    (hd:∀ j,cq ops j i=true->lv listed j=true):Inv X w0 bs a0 ops l g' (listed.setIfInBounds i true) (a.put (aP ops i) v) w' where
 ext:=hx
 size0:=hs0
 kept k cs t hk hB:=hkp k cs t hk hB.lt (I.kept k cs t hk hB)
 obs n ob h:=hob n ob h (I.obs n ob h)
 defers:=Act.k8.trans I.defers
 size:=Act.jN.trans I.size
 off t ht:=by
  rw[Act.dz,if_neg (fun h=>ht i h.1)];exact I.off t ht
 done j hj hl:=by
  by_cases e:j=i
  ·subst e;exact hD
  ·have hl0:lv listed j=true:=by
    have:lv (listed.setIfInBounds i true) j=true:=hl;rw[gT] at this;simpa[e] using this
   have D:=I.done j hj hl0;have hH:∀ u,Hd ops j a u->Hd ops j (a.put (aP ops i) v) u:=fun u h d hd0=>by
    rw[Act.dz,if_neg (fun h2=>e (lC ho hd0 h2.1))];exact h d hd0
   unfold Dn at D ⊢;cases hk:l[j]? with
   | none=>trivial
   | some k =>
    rw[hk] at D;cases k with
    | val u=>exact hH u D
    | mem mk z t s =>
     simp only[hg j e] at D ⊢;exact⟨hH _ D.1,D.2.1,hp j hj e hl0 mk z t s hk D.2.1 D.2.2⟩
    | put al c=>trivial
    | st n=>trivial
    | off=>exact hH undef D
 apart j k hjk hj hk hlj hlk mj mk:=by
  have f:∀ x:Nat,x≠i->lv (listed.setIfInBounds i true) x=true->lv listed x=true:=fun x hx this=>by
   rw[gT] at this;simpa[hx] using this
  by_cases e1:j=i
  ·subst e1;have e2:k≠j:=fun e=>hjk e.symm
   rw[hg k e2];exact ha mj k hk e2 (f k e2 hlk) mk
  ·by_cases e2:k=i
   ·subst e2;rw[hg j e1];exact fun e=>ha mk j hj e1 (f j e1 hlj) mj e.symm
   ·rw[hg j e1,hg k e2];exact I.apart j k hjk hj hk (f j e1 hlj) (f k e2 hlk) mj mk
 shut j k hj hl hdep:=by
  show lv (listed.setIfInBounds i true) k=true;rw[gT];by_cases e:j=i
  ·subst e;simp[hd k hdep]
  ·have:lv (listed.setIfInBounds i true) j=true:=hl;rw[gT] at this;have h2:=I.shut j k hj (by simpa[e] using this) hdep;have h3:lv listed k=true:=h2;simp[h3]
theorem fP{l:List Kd}{i n:Nat}{ob:Ob}{listed:Array Bool}(h:l[i]?≠some (.st n)):eV l (fun s=>lv (listed.setIfInBounds i true) s) n ob=eV l (fun s=>lv listed s) n ob:=by
 unfold eV;cases e:kP l n with
 | none=>rfl
 | some s =>
  simp only[Option.map_some,Option.getD_some,gT];by_cases e2:s=i
  ·subst e2;exact absurd (kV e) h
  ·simp[e2]
theorem Inv.deep{w0 w:World}{a0 a:Act}{ops:Array Oper}{l:List Kd}{g:Nat->Nat}{listed:Array Bool}(I:Inv X w0 bs a0 ops l g listed a w){j:Nat}:∀ {f i:Nat},fO ops j f i=true->i<ops.size->lv listed i=true->lv listed j=true
 | 0,i,h,_,_=>by cases h
 | f+1,i,h,hi,hl=>by
  simp only[fO,Bool.or_eq_true,List.any_eq_true,List.mem_range,Bool.and_eq_true] at h;rcases h with h|⟨k,hk,h1,h2⟩
  ·exact I.shut i j hi hl h
  ·exact I.deep h2 ae (I.shut i k hi hl h1)
theorem kI {a0:Act} {ops:Array Oper} {l:List Kd} {g:Nat->Nat} (ho:dD ops a0.tmps.size=true):∀ n,(dU a0 ops l g n).tmps.size=a0.tmps.size/\(dU a0 ops l g n).defers=a0.defers /\
    ∀ t,(∀ i d,i<n->aP ops i=some d->d=t->(dU a0 ops l g n).tmps[t]?=some (((l[i]?).map (Kd.value g i)).getD undef))/\((∀ i,i<n->aP ops i≠some t)->(dU a0 ops l g n).tmps[t]?=a0.tmps[t]?)
 | 0=>⟨rfl,rfl,fun t=>⟨fun i d hi=>absurd hi ae,fun _=>rfl⟩⟩
 | n+1=>by
  obtain⟨h1,h2,h3⟩:=kI ho n (l:=l) (g:=g);refine⟨by show((dU a0 ops l g n).put _ _).tmps.size=_;rw[Act.jN,h1],by show((dU a0 ops l g n).put _ _).defers=_;rw[Act.k8,h2],fun t=>⟨fun i d hi hd e=>?_,fun h=>?_⟩⟩
  ·subst e;show((dU a0 ops l g n).put _ _).tmps[d]?=_;rw[Act.dz];by_cases e:i=n
   ·subst e;rw[if_pos ⟨hd,by rw[h1];exact pS ho hd⟩]
   ·rw[if_neg (fun h=>e (lC ho hd h.1))];exact(h3 d).1 i d ae hd rfl
  ·show((dU a0 ops l g n).put _ _).tmps[t]?=_;rw[Act.dz,if_neg (fun h2=>h n ae h2.1)];exact(h3 t).2 (fun i hi=>h i ae)
theorem zx{ops:Array Oper}{n:Nat}{listed:Array Bool}(ho:dD ops n=true)(hr:Region.ready .any ops listed=[]):∀ i,i<ops.size->lv listed i=true:=by
 intro i;induction i using Nat.strongRecOn with
 | ind i ih =>
  intro hi;cases h:lv listed i with
  | true=>rfl
  | false =>
   exfalso;have:i ∈ Region.ready .any ops listed:=mem_ready.2 ⟨h,ops[i],by simp[hi],fun e he hb=>by
    have hlt:=(eC ho (show ops[i]?=some ops[i] by simp[hi])).1 e he hb;have:=ih e.on hlt ae;have hs:e.on<listed.size:=by have:=gW h;omega
    simpa[lv,Array.getD,hs] using this⟩
   rw[hr] at this;cases this
end
section
variable {P:Program} {ops:Array Oper} {Q:Exit->Act->World->Prop} {X:World} {bs:List Ob}
theorem Inv.step {w0:World} {a0 a:Act} {l:List Kd} {g:Nat->Nat} {listed:Array Bool} {w:World} {i:Nat}
    (ho:dD ops a0.tmps.size=true) (hk:iy ops bs.length l=true) (hbs:∀ ob ∈ bs,X.heap.size<=ob.b/\ob.b<w0.heap.size) (hdis:∀ (n m:Nat) (x y:Ob),n≠m->bs[n]?=some x->bs[m]?=some y->x.b≠y.b) (hX:X.heap.size<=w0.heap.size) (hrun:iJ P Q X w0 bs ops l a0 (List.range ops.size))
    (I:Inv X w0 bs a0 ops l g listed a w) (hi:i ∈ Region.ready .any ops listed):wpOp P ops Q i (fun a' w'=>∃ g,Inv X w0 bs a0 ops l g (listed.setIfInBounds i true) a' w') a w:=by
 obtain⟨h0,o,hoi,hall⟩:=mem_ready.1 hi;have hlt:i<ops.size:=(Array.getElem?_eq_some_iff.1 hoi).1;have hll:=iU hk;have hX0:X.heap.size<=w0.heap.size:=hX;obtain⟨k,hki⟩:∃ k,l[i]?=some k:=⟨l[i]'(by omega),by simp[hll,hlt]⟩
 obtain⟨c1,c2,c3,c4,c5⟩:=gC hk hki hoi;obtain⟨b1,b2,b3⟩:=eC ho hoi;have hoD:aP ops i=o.dst:=by simp[cf,hoi]
 have hdep:∀ j,cq ops j i=true->lv listed j=true:=fun j hj=>by
  rw[mw] at hj;rw[hoi] at hj;simp only[Array.any_eq_true',Bool.and_eq_true,beq_iff_eq] at hj;obtain⟨e,he,hb,rfl⟩:=hj;have:=hall e he hb;rcases Nat.lt_or_ge e.on listed.size with h|h
  ·simpa[lv,Array.getD,h] using this
  ·simp[lv,Array.getD,Nat.not_lt.2 h]
 have hdst:∀ {v d},aP ops i=some d->(a.put (aP ops i) v).tmps[d]?=some v:=fun {v d} hd=>by
  rw[Act.dz,if_pos ⟨hd,by rw[I.size];exact pS ho hd⟩]
 have seen:Seen X w0 bs ops l g i a0 a w:=⟨I.ext,fun t ht=>Act.oB (I.off t ht),⟨fun j hj d hd=>by
  have hjl:=gY ho hj;have D:=I.done j ae (hdep j hj);unfold Dn at D;cases hkj:l[j]? with
  | none=>trivial
  | some kj =>
   rw[hkj] at D;have hjs:j<ops.size:=ae;cases kj with
   | val u=>exact⟨Act.lB (D d hd),trivial⟩
   | mem mk z t s=>exact⟨Act.lB (D.1 d hd),D.2.1,fun e=>by subst e;exact D.2.2⟩
   | put al c =>
    have:=(gC hk hkj (show ops[j]?=some ops[j] by simp[hjs])).1 al c rfl;simp[cf,hjs,this.1] at hd
   | st n =>
    have:=((gC hk hkj (show ops[j]?=some ops[j] by simp[hjs])).2.2.2.2 n rfl).1;simp[cf,hjs,this] at hd
   | off=>exact⟨Act.lB (D d hd),trivial⟩,I.kept,fun n ob hb hs=>by
    have h:=I.obs n ob hb;have e:eV l (fun s=>lv listed s) n ob=ob.z:=by
     unfold eV;unfold r9 at hs;cases e:kP l n with
     | none=>rfl
     | some s =>
      rw[e] at hs;simp only[Option.map_some,Option.getD_some];have hsl:s<ops.size:=by rw[← hll];exact(List.getElem?_eq_some_iff.1 (kV e)).1
      have h9:lv listed s=false:=by
       cases h9:lv listed s with
       | false=>rfl
       | true =>
        have:=I.deep hs hsl h9;rw[show lv listed i=false from h0] at this;cases this
      exact if_neg (by rw[h9];decide)
    rw[← e];exact h⟩⟩
 have R:Rn P Q bs l g o k a w:=hrun.at i (List.mem_range.2 hlt) g a w seen o k hoi hki
 -- is it wanted?
 have W:(Region.wanted o (yielded ops a.tmps)=true/\k ≠ .off)∨(Region.wanted o (yielded ops a.tmps)=false/\k = .off):=by
  cases hg:o.guard with
  | none=>exact Or.inl ⟨by simp[Region.wanted,hg],c3 hg⟩
  | some jw =>
   obtain⟨j,want⟩:=jw;obtain⟨hdj,d,hd⟩:=b3 j want hg;have S:=seen.2.2.1 j hdj d hd;have D:=I.done j (by have:=gY ho hdj;omega) (hdep j hdj);unfold Dn at D;rcases c4 j want hg with⟨b,hb,h⟩|⟨hb,h⟩
   ·rw[hb] at D;have hy:yielded ops a.tmps j=some b:=by
     have h1:a.tmps[d]?=some (.bool b):=D d hd;have h2:(ops[j]?).bind (·.dst)=some d:=by rw[← cf];exact hd
     simp[yielded,h2,h1]
    rcases h with⟨rfl,hne⟩|⟨hne,rfl⟩
    ·exact Or.inr ⟨by simp[Region.wanted,hg,hy,hne],rfl⟩
    ·exact Or.inl ⟨by simp[Region.wanted,hg,hy],hne⟩
   ·rw[hb] at D;have hy:yielded ops a.tmps j=none:=by
     have h1:a.tmps[d]?=some undef:=D d hd;have h2:(ops[j]?).bind (·.dst)=some d:=by rw[← cf];exact hd
     simp[yielded,h2,h1,undef]
    exact Or.inr ⟨by simp[Region.wanted,hg,hy],h⟩
 refine wpOp_step hoi fun K' hK'=>?_
 rcases W with⟨hw,hne⟩|⟨hw,rfl⟩
 ·rw[if_pos hw];cases k with
  | off=>exact absurd rfl hne
  | val v =>
   refine R K' fun w' hx=>hK' _ _ ⟨g,?_⟩
   rw[← hoD];have np:∀ j c,l[i]?≠some (.put j c):=fun j c e=>by rw[hki] at e;cases e
   exact Inv.next ho I hlt (I.ext.trans hx) (Nat.le_trans I.size0 hx.size) (fun _ _ _ _ _ hB=>hB.ext hx) (fun n _ _ hB=>by rw[fP (by rw[hki];simp)];exact hB.ext hx) (fun _ _=>rfl) (by unfold Dn;rw[hki];exact fun d hd=>hdst hd)
    (fun j _ _ _ mk z t s _ _ hB=>by rw[iv (np j)];exact hB.ext hx) (fun⟨_,_,_,_,e⟩=>by rw[hki] at e;cases e) hdep
  | mem mk z t s =>
   refine R K' (hK' _ _ ⟨fun j=>if j=i then w.heap.size else g j,?_⟩);rw[← hoD];have np:∀ j c,l[i]?≠some (.put j c):=fun j c e=>by rw[hki] at e;cases e
   refine Inv.next ho I hlt (I.ext.alloc _) (Nat.le_trans I.size0 (by simp)) (fun _ _ _ _ _ hB=>hB.alloc _) (fun n _ _ hB=>by rw[fP (by rw[hki];simp)];exact hB.alloc _) (fun j hj=>if_neg hj) ?_ (fun j _ _ _ mk z t s _ _ hB=>by rw[iv (np j)];exact hB.alloc _) ?_ hdep
   ·unfold Dn;rw[hki];simp only[if_true];refine⟨fun d hd=>hdst hd,I.size0,?_⟩;have e:(if (s.map fun s=>lv (listed.setIfInBounds i true) s).getD false then Kd.cells l z i s else z)=z:=by
     cases s with
     | none=>rfl
     | some s =>
      simp only[Option.map_some,Option.getD_some,gT];by_cases hL:(lv listed s || (s == i))=true
      ·rw[if_pos hL];refine kK fun c e=>?_
       have hsl:s<ops.size:=by rw[← hll];exact(List.getElem?_eq_some_iff.1 e).1
       have h2:=(gC hk e (show ops[s]?=some ops[s] by simp[hsl])).1 i c rfl;have hne2:s≠i:=by have:=gY ho h2.2.1;omega
       have hs1:lv listed s=true:=by simpa[hne2] using hL
       have h3:=I.shut s i hsl hs1 h2.2.1;rw[h0] at h3;cases h3
      ·rw[if_neg hL]
    rw[e];exact ax.new w z t
   ·intro _ j hj hji hl ⟨mk',z',t',s',e⟩;simp only[if_true];have D:=I.done j hj hl;unfold Dn at D;rw[e] at D;have:=D.2.2.lt;omega
  | put al c =>
   obtain⟨hd0,hal,mk,z,t,e⟩:=c1 al c rfl;have hall':=hdep al hal;have hals:al<ops.size:=by have:=gY ho hal;omega
   have D:=I.done al hals hall';unfold Dn at D;rw[e] at D;have hz:(if ((some i).map fun s=>lv listed s).getD false then Kd.cells l z al (some i) else z)=z:=by
    have h9:lv listed i=false:=h0;simp only[Option.map_some,Option.getD_some,h9];rfl
   have hB:=D.2.2;rw[hz] at hB;refine R z t hB ⟨mk,some i,e⟩ K' fun w' hO hN=>hK' _ _ ⟨g,?_⟩
   rw[← hoD];refine Inv.next ho I hlt (hO.2.1 _ (Nat.le_trans hX0 D.2.1) I.ext) (by rw[hO.2.2];exact I.size0) (fun k _ _ _ hk hB=>hO.1 k _ _ ae hB) (fun n ob hb hB=>by rw[fP (by rw[hki];simp)];exact hO.1 _ _ _ (by have:=(hbs ob (List.mem_of_getElem? hb)).2;omega) hB) (fun _ _=>rfl) (by unfold Dn;rw[hki];trivial) ?_ (fun⟨_,_,_,_,e⟩=>by rw[hki] at e;cases e) hdep;intro j hj hji hl mk' z' t' s' e' _ hBj;by_cases ej:j=al
   ·subst ej;rw[e] at e';simp only[Option.some.injEq,Kd.mem.injEq] at e';obtain⟨rfl,rfl,rfl,rfl⟩:=e';have:now l z j (some i) (fun k=>lv (listed.setIfInBounds i true) k)=c:=by
     unfold now;simp[Kd.cells,hki]
    rw[this];exact hN
   ·have np:∀ c',l[i]?≠some (.put j c'):=fun c' e2=>by rw[hki] at e2;simp only[Option.some.injEq,Kd.put.injEq] at e2;exact ej e2.1.symm
    rw[iv np];exact hO.1 _ _ _ (I.apart j al ej hj hals hl hall' ⟨_,_,_,_,e'⟩ ⟨_,_,_,_,e⟩) hBj
  | st n =>
   obtain⟨hd0,hst,hn⟩:=c5 n rfl;obtain⟨ob,hb⟩:∃ ob,bs[n]?=some ob:=⟨bs[n],by simp[hn]⟩
   have hbo:=hbs ob (List.mem_of_getElem? hb);have h9:lv listed i=false:=h0;have hBz:=I.obs n ob hb;have ez:eV l (fun s=>listed.getD s true) n ob=ob.z:=by
    unfold eV;rw[hst];simp only[Option.map_some,Option.getD_some,h9];rfl
   rw[ez] at hBz;refine R ob hb hBz K' fun w' hO hN=>hK' _ _ ⟨g,?_⟩
   rw[← hoD];have np:∀ j c,l[i]?≠some (.put j c):=fun j c e=>by rw[hki] at e;cases e
   refine Inv.next ho I hlt (hO.2.1 _ hbo.1 I.ext) (by rw[hO.2.2];exact I.size0) (fun k _ _ hk _ hB=>hO.1 k _ _ (fun e=>hk ob (List.mem_of_getElem? hb) e.symm) hB) ?_ (fun _ _=>rfl) (by unfold Dn;rw[hki];trivial) ?_ (fun⟨_,_,_,_,e⟩=>by rw[hki] at e;cases e) hdep
   ·intro m ob' hb' hB;by_cases em:m=n
    ·subst em;obtain rfl:ob'=ob:=Option.some.inj (hb'.symm.trans hb);have:eV l (fun s=>lv (listed.setIfInBounds i true) s) m ob'=ob'.c:=by
      unfold eV;rw[hst];simp only[Option.map_some,Option.getD_some,gT,beq_self_eq_true,Bool.or_true];rfl
     rw[this];exact hN
    ·rw[fP (by rw[hki];intro e;simp only[Option.some.injEq,Kd.st.injEq] at e;exact em e.symm)];exact hO.1 _ _ _ (hdis m n _ _ em hb' hb) hB
   ·intro j hj hji hl mk' z' t' s' e' hge hBj;rw[iv (np j)];exact hO.1 _ _ _ ae hBj
 ·rw[if_neg (by rw[hw];decide)];refine hK' _ _ ⟨g,?_⟩;rw[← hoD];have np:∀ j c,l[i]?≠some (.put j c):=fun j c e=>by rw[hki] at e;cases e
  exact Inv.next ho I hlt I.ext I.size0 (fun _ _ _ _ _ hB=>hB) (fun n _ _ hB=>by rw[fP (by rw[hki];simp)];exact hB) (fun _ _=>rfl) (by unfold Dn;rw[hki];exact fun d hd=>hdst hd)
   (fun j _ _ _ mk z t s _ _ hB=>by rw[iv (np j)];exact hB) (fun⟨_,_,_,_,e⟩=>by rw[hki] at e;cases e) hdep
def wE(P:Program)(Q:Exit->Act->World->Prop)(X w0:World)(bs:List Ob)(ops:Array Oper)(l:List Kd)(a0:Act):Nat->List Oper->List Kd->Prop
 | i,o :: os,k :: ks=>(∀ (g:Nat->Nat) (a:Act) (w:World),Seen X w0 bs ops l g i a0 a w->Rn P Q bs l g o k a w)/\wE P Q X w0 bs ops l a0 (i+1) os ks
 | _,_,_=>True
theorem wE.cons {w0:World} {l:List Kd} {a0:Act} {i:Nat} {o:Oper} {os:List Oper} {k:Kd} {ks:List Kd}
    (h:∀ (g:Nat->Nat) (a:Act) (w:World),Seen X w0 bs ops l g i a0 a w->Rn P Q bs l g o k a w) (hs:wE P Q X w0 bs ops l a0 (i+1) os ks):wE P Q X w0 bs ops l a0 i (o :: os) (k :: ks):=⟨h,hs⟩
theorem wE.nil{w0:World}{l:List Kd}{a0:Act}{i:Nat}:wE P Q X w0 bs ops l a0 i [] []:=trivial
theorem wE.all{w0:World}{l:List Kd}{a0:Act}:∀ {i:Nat} {os:List Oper} {ks:List Kd},(∀ j,ops[i+j]?=os[j]?)->(∀ j,l[i+j]?=ks[j]?)->os.length=ks.length->wE P Q X w0 bs ops l a0 i os ks->iJ P Q X w0 bs ops l a0 (List.range' i os.length)
 | i,[],_,_,_,_,_=>trivial
 | i,o :: os,[],_,_,hl,_=>by simp at hl
 | i,o :: os,k :: ks,ho,hk,hl,h=>by
  rw[List.length_cons,List.range'_succ];refine⟨fun g a w s=>?_,wE.all (fun j=>?_) (fun j=>?_) (by simpa using hl) h.2⟩
  ·have e1:ops[i]?=some o:=by simpa using ho 0
   have e2:l[i]?=some k:=by simpa using hk 0
   rw[e1,e2];exact h.1 g a w s
  ·have:=ho (j+1);simpa[Nat.add_assoc,Nat.add_comm 1 j] using this
  ·have:=hk (j+1);simpa[Nat.add_assoc,Nat.add_comm 1 j] using this
theorem iJ.cons {w0:World} {l:List Kd} {a0:Act} {i:Nat} {o:Oper} {k:Kd} {is:List Nat} (ho:ops[i]?=some o) (hk:l[i]?=some k)
    (h:∀ (g:Nat->Nat) (a:Act) (w:World),Seen X w0 bs ops l g i a0 a w->Rn P Q bs l g o k a w) (hs:iJ P Q X w0 bs ops l a0 is):iJ P Q X w0 bs ops l a0 (i :: is) :=
 ⟨fun g a w s=>by rw[ho,hk];exact h g a w s,hs⟩
theorem iJ.nil{w0:World}{l:List Kd}{a0:Act}:iJ P Q X w0 bs ops l a0 []:=trivial
theorem Rn.st {l:List Kd} {g:Nat->Nat} {o:Oper} {n:Nat} {ob:Ob} {a:Act} {w:World} (hb:bs[n]?=some ob)
    (h:ax w ob.b ob.z ob.t->∀ K:Act->World->Prop,Hid (∀ w',qe ob.b w w'->ax w' ob.b ob.c ob.t->K (a.put o.dst undef) w')->o.wp P a w K Q):Rn P Q bs l g o (.st n) a w:=fun ob' hb' hB K hK=>by
 obtain rfl:ob'=ob:=Option.some.inj (hb'.symm.trans hb);exact h hB K (aj hK)
theorem Rn.val{l:List Kd}{g:Nat->Nat}{o:Oper}{v:Value}{a:Act}{w:World}(h:∀ K:Act->World->Prop,Hid (∀ w',Ext w w'->K (a.put o.dst v) w')->o.wp P a w K Q):Rn P Q bs l g o (.val v) a w:=fun K hK=>h K (aj hK)
theorem Rn.mem{l:List Kd}{g:Nat->Nat}{o:Oper}{mk:Nat->Value}{z:Array Value}{t:TypeId}{s:Option Nat}{a:Act}{w:World}(h:∀ K:Act->World->Prop,Hid (K (a.put o.dst (mk w.heap.size)) (w.alloc (.cells z t)))->o.wp P a w K Q):Rn P Q bs l g o (.mem mk z t s) a w:=fun K hK=>h K (aj hK)
theorem Rn.put {l:List Kd} {g:Nat->Nat} {o:Oper} {al:Nat} {c z:Array Value} {t:TypeId} {mk:Nat->Value} {s:Option Nat} {a:Act} {w:World} (hl:l[al]?=some (.mem mk z t s))
    (h:ax w (g al) z t->∀ K:Act->World->Prop,Hid (∀ w',qe (g al) w w'->ax w' (g al) c t->K (a.put o.dst undef) w')->o.wp P a w K Q):Rn P Q bs l g o (.put al c) a w:=fun z' t' hB ⟨_,_,e⟩ K hK=>by
 rw[hl] at e;simp only[Option.some.injEq,Kd.mem.injEq] at e;obtain⟨_,rfl,rfl,_⟩:=e;exact h hB K (aj hK)
theorem Rn.off{l:List Kd}{g:Nat->Nat}{o:Oper}{a:Act}{w:World}:Rn P Q bs l g o .off a w:=trivial
def Cl(ops:Array Oper)(t:Nat):Bool:=ops.toList.all fun o=>o.dst != some t
theorem Act.raw{a:Act}{t:Nat}{v:Value}(h:a.eval (.tmp t)=v):a.tmps[t]?.getD undef=v:=by
 rw[← h];simp[Act.eval,Array.getD_eq_getD_getElem?]
theorem Seen.old{w0:World}{l:List Kd}{g:Nat->Nat}{i:Nat}{a0 a:Act}{w:World}(h:Seen X w0 bs ops l g i a0 a w)(t:Nat)(ht:Cl ops t=true):a.tmps[t]?.getD undef=a0.eval (.tmp t) :=
 Act.raw <| h.2.1 t fun j e=>by
  have hj:=fN e;have e':aP ops j=ops[j].dst:=by simp[cf,hj]
  have:=(List.all_eq_true.1 ht) ops[j] (by simp);rw[← e',e] at this;simp at this
theorem Seen.val{w0:World}{l:List Kd}{g:Nat->Nat}{i:Nat}{a0 a:Act}{w:World}{v:Value}{d:Nat}(h:Seen X w0 bs ops l g i a0 a w)(j:Nat)(hj:cq ops j i=true)(hd:aP ops j=some d)(hk:l[j]?=some (.val v)):a.tmps[d]?.getD undef=v:=by
 have:=h.2.2.1 j hj d hd;rw[hk] at this;exact Act.raw this.1
theorem Seen.mem {w0:World} {l:List Kd} {g:Nat->Nat} {i:Nat} {a0 a:Act} {w:World} {mk:Nat->Value} {z:Array Value} {t:TypeId} {s:Option Nat} {d:Nat} (h:Seen X w0 bs ops l g i a0 a w) (j:Nat) (hj:cq ops j i=true) (hd:aP ops j=some d) (hk:l[j]?=some (.mem mk z t s)) :
    a.tmps[d]?.getD undef=mk (g j)/\w0.heap.size<=g j/\(s=none->ax w (g j) z t):=by
 have:=h.2.2.1 j hj d hd;rw[hk] at this;exact⟨Act.raw this.1,this.2⟩
theorem Seen.un{w0:World}{l:List Kd}{g:Nat->Nat}{i:Nat}{a0 a:Act}{w:World}{d:Nat}(h:Seen X w0 bs ops l g i a0 a w)(j:Nat)(hj:cq ops j i=true)(hd:aP ops j=some d)(hk:l[j]?=some .off):a.tmps[d]?.getD undef=undef:=by
 have:=h.2.2.1 j hj d hd;rw[hk] at this;exact Act.raw this.1
theorem Seen.ob{w0:World}{l:List Kd}{g:Nat->Nat}{i:Nat}{a0 a:Act}{w:World}(h:Seen X w0 bs ops l g i a0 a w)(n:Nat){ob:Ob}(hb:bs[n]?=some ob)(hs:r9 ops l i n=true):ax w ob.b ob.z ob.t:=h.2.2.2.2 n ob hb hs
def bD(a:Act):List (Option Tmp × Value)->Act
 | []=>a
 | (d,v) :: r=>bD (a.put d v) r
def fs(g:Nat->Nat):Nat->List Oper->List Kd->List (Option Tmp × Value)
 | i,o :: os,k :: ks=>(o.dst,k.value g i) :: fs g (i+1) os ks
 | _,_,_=>[]
theorem kl(a:Act)(d:Option Tmp)(v:Value):∀ r:List (Option Tmp × Value),bD a (r ++ [(d,v)])=(bD a r).put d v
 | []=>rfl
 | (_,_) :: r=>kl _ d v r
theorem rj {g:Nat->Nat} {l:List Kd}:∀ {i:Nat} {os:List Oper} {ks:List Kd},(∀ j,ops.toList[i+j]?=os[j]?)->(∀ j,l[i+j]?=ks[j]?)->os.length=ks.length ->
    fs g i os ks=(List.range' i os.length).map fun i=>(aP ops i,((l[i]?).map (Kd.value g i)).getD undef)
 | i,[],[],_,_,_=>rfl
 | i,[],_ :: _,_,_,h=>by simp at h
 | i,_ :: _,[],_,_,h=>by simp at h
 | i,o :: os,k :: ks,ho,hk,hl=>by
  have e1:ops.toList[i]?=some o:=by simpa using ho 0
  have e2:l[i]?=some k:=by simpa using hk 0
  rw[List.length_cons,List.range'_succ,List.map_cons,← rj (l:=l) (os:=os) (ks:=ks) (fun j=>by have:=ho (j+1);rw[show i+1+j=i+(j+1) by omega,this];rfl) (fun j=>by have:=hk (j+1);rw[show i+1+j=i+(j+1) by omega,this];rfl) (by simpa using hl)];simp[fs,aP,e1,e2]
theorem kJ{a0:Act}{l:List Kd}{g:Nat->Nat}:∀ n,dU a0 ops l g n=bD a0 ((List.range n).map fun i=>(aP ops i,((l[i]?).map (Kd.value g i)).getD undef))
 | 0=>rfl
 | n+1=>by
  rw[List.range_succ,List.map_append,List.map_cons,List.map_nil,kl,← kJ n];rfl
theorem qH {id:Nat} {a0:Act} {w:World} (l:List Kd) {is:List Nat} (hm:P.follows .mixedOrders=true) (ho:dD ops a0.tmps.size=true) (hk:iy ops bs.length l=true) (hX:Ext X w.drew) (hbs:∀ ob ∈ bs,X.heap.size<=ob.b/\ax w.drew ob.b ob.z ob.t) (hdis:∀ (n m:Nat) (x y:Ob),n≠m->bs[n]?=some x->bs[m]?=some y->x.b≠y.b) (his:List.range ops.size=is)
    (hrun:iJ P Q X w.drew bs ops l a0 is)
    (hend:∀ (g:Nat->Nat) (w':World),Ext X w'->(∀ k cs t,(∀ ob ∈ bs,ob.b≠k)->ax w.drew k cs t->ax w' k cs t)->(∀ n ob,bs[n]?=some ob->ax w' ob.b (if (kP l n).isSome then ob.c else ob.z) ob.t)->(∀ i mk z t s,l[i]?=some (.mem mk z t s)->w.heap.size<=g i/\ax w' (g i) (Kd.cells l z i s) t) ->
     (∀ i j,i≠j->(∃ mk z t s,l[i]?=some (.mem mk z t s))->(∃ mk z t s,l[j]?=some (.mem mk z t s))->g i≠g j)->Q .normal (dU a0 ops l g ops.size) w') :
    (Code.region id ops true).wp P Q a0 w:=by
 subst his;refine wp_region_any hm (ka (fun listed a w'=>∃ g,Inv X w.drew bs a0 ops l g listed a w') ?_ ?_ ops.size _ a0 w.drew (by simp) ?_ ⟨fun _=>0,?_⟩)
 ·intro listed a w1 i _ ⟨g,I⟩ hi;exact I.step ho hk (fun ob h=>⟨(hbs ob h).1,(hbs ob h).2.lt⟩) hdis hX.size hrun hi
 ·intro listed a w1 hs ⟨g,I⟩ hr;have up:=zx ho hr;have ll:=iU hk;have ea:a=dU a0 ops l g ops.size:=by
   obtain⟨f1,f2,f3⟩:=kI ho ops.size (l:=l) (g:=g);have et:a.tmps=(dU a0 ops l g ops.size).tmps:=by
    apply Array.ext_getElem?;intro t;by_cases h:∃ i,aP ops i=some t
    ·obtain⟨i,hi⟩:=h;have hil:=fN hi;rw[(f3 t).1 i t hil hi rfl];have D:=I.done i hil (up i hil);unfold Dn at D;obtain⟨k,hki⟩:∃ k,l[i]?=some k:=⟨l[i]'(by omega),by simp[ll,hil]⟩
     rw[hki] at D ⊢;cases k with
     | val u=>exact D t hi
     | mem mk z t' s=>exact D.1 t hi
     | put al c =>
      have:=(gC hk hki (show ops[i]?=some ops[i] by simp[hil])).1 al c rfl;simp[cf,hil,this.1] at hi
     | st n =>
      have:=((gC hk hki (show ops[i]?=some ops[i] by simp[hil])).2.2.2.2 n rfl).1;simp[cf,hil,this] at hi
     | off=>exact D t hi
    ·have h':∀ i,aP ops i≠some t:=fun i e=>h ⟨i,e⟩
     rw[I.off t h',(f3 t).2 (fun i _=>h' i)]
   have ed:a.defers=(dU a0 ops l g ops.size).defers:=I.defers.trans f2.symm;cases a;simp only at et ed;rw[et,ed]
  rw[ea];refine hend g w1 I.ext I.kept ?_ ?_ ?_
  ·intro n ob hb;have h:=I.obs n ob hb;have e:eV l (fun s=>listed.getD s true) n ob=if (kP l n).isSome then ob.c else ob.z:=by
    unfold eV;cases e:kP l n with
    | none=>rfl
    | some s =>
     have hs:s<ops.size:=by rw[← ll];exact(List.getElem?_eq_some_iff.1 (kV e)).1
     have:=up s hs;simp only[Option.map_some,Option.getD_some,Option.isSome_some,if_true];rw[if_pos this]
   rw[← e];exact h
  ·intro i mk z t s e;have hil:i<ops.size:=by rw[← ll];exact(List.getElem?_eq_some_iff.1 e).1
   have D:=I.done i hil (up i hil);unfold Dn at D;rw[e] at D;refine⟨D.2.1,?_⟩;have hB:=D.2.2;have e2:(if (s.map fun s=>lv listed s).getD false then Kd.cells l z i s else z)=Kd.cells l z i s:=by
    cases s with
    | none=>rfl
    | some s =>
     by_cases hs2:s<ops.size
     ·simp only[Option.map_some,Option.getD_some,up s hs2,if_true]
     ·have h9:l[s]?=none:=by simp[ll];omega
      simp[Kd.cells,h9]
   rw[e2] at hB;exact hB
  ·intro i j hij hi hj;have hil:i<ops.size:=by obtain⟨_,_,_,_,e⟩:=hi;rw[← ll];exact(List.getElem?_eq_some_iff.1 e).1
   have hjl:j<ops.size:=by obtain⟨_,_,_,_,e⟩:=hj;rw[← ll];exact(List.getElem?_eq_some_iff.1 e).1
   exact I.apart i j hij hil hjl (up i hil) (up j hjl) hi hj
 ·exact Nat.le_trans List.countP_le_length (by simp)
 ·exact { ext:=hX,size0:=Nat.le_refl _,kept:=fun _ _ _ _ h=>h,obs:=fun n ob hb=>(by
   have h:=(hbs ob (List.mem_of_getElem? hb)).2;have e:eV l (fun s=>(Array.replicate ops.size false).getD s true) n ob=ob.z:=by
    unfold eV;cases e:kP l n with
    | none=>rfl
    | some s =>
     have hs:s<ops.size:=by rw[← iU hk];exact(List.getElem?_eq_some_iff.1 (kV e)).1
     simp[hs]
   rw[e];exact h),defers:=rfl,size:=rfl,off:=fun _ _=>rfl,done:=fun i hi h=>(by simp[hi] at h),apart:=fun i j _ hi _ h=>(by simp[hi] at h),shut:=fun i j hi h=>(by simp[hi] at h) }
theorem pe {os:List Oper} {id:Nat} {a0:Act} {w:World} (bs:List Ob) (l:List Kd) (hm:P.follows .mixedOrders=true) (ho:dD os.toArray a0.tmps.size=true) (hk:iy os.toArray bs.length l=true)
    (hX:Ext X w.drew) (hbs:∀ ob ∈ bs,X.heap.size<=ob.b/\ax w.drew ob.b ob.z ob.t) (hdis:∀ (n m:Nat) (x y:Ob),n≠m->bs[n]?=some x->bs[m]?=some y->x.b≠y.b)
    (hrun:wE P Q X w.drew bs os.toArray l a0 0 os l)
    (hend:∀ (g:Nat->Nat) (w':World),Ext X w'->(∀ k cs t,(∀ ob ∈ bs,ob.b≠k)->ax w.drew k cs t->ax w' k cs t)->(∀ n ob,bs[n]?=some ob->ax w' ob.b (if (kP l n).isSome then ob.c else ob.z) ob.t) ->
     (∀ i mk z t s,l[i]?=some (.mem mk z t s)->w.drew.heap.size<=g i/\ax w' (g i) (Kd.cells l z i s) t) ->
     (∀ i j,i≠j->(∃ mk z t s,l[i]?=some (.mem mk z t s))->(∃ mk z t s,l[j]?=some (.mem mk z t s))->g i≠g j)->Q .normal (bD a0 (fs g 0 os l)) w') :
    (Code.region id os.toArray true).wp P Q a0 w:=by
 have hl:=iU hk;refine qH l hm ho hk hX hbs hdis rfl ?_ (fun g w' a b b2 c d=>?_)
 case refine_2 =>
  have:=hend g w' a b b2 c d;rw[rj (ops:=os.toArray) (l:=l) (fun j=>by simp) (fun j=>by simp) (by simpa using hl.symm),← List.range_eq_range',← kJ] at this;simpa using this
 have:=wE.all (fun j=>by simp) (fun j=>by simp) (by simpa using hl.symm) hrun;rwa[← List.range_eq_range'] at this
theorem sh {os:List Oper} {id:Nat} {a0:Act} {w:World} (l:List Kd) (hm:P.follows .mixedOrders=true) (ho:dD os.toArray a0.tmps.size=true) (hk:DJ os.toArray l=true)
    (hrun:wE P Q w.drew w.drew [] os.toArray l a0 0 os l)
    (hend:∀ (g:Nat->Nat) (w':World),Ext w.drew w'->(∀ i mk z t s,l[i]?=some (.mem mk z t s)->w.drew.heap.size<=g i/\ax w' (g i) (Kd.cells l z i s) t) ->
     (∀ i j,i≠j->(∃ mk z t s,l[i]?=some (.mem mk z t s))->(∃ mk z t s,l[j]?=some (.mem mk z t s))->g i≠g j)->Q .normal (bD a0 (fs g 0 os l)) w') :
    (Code.region id os.toArray true).wp P Q a0 w :=
 pe [] l hm ho hk (Ext.refl _) (fun _ h=>by cases h) (fun _ _ _ _ _ h=>by simp at h) hrun (fun g w' a _ _ c d=>hend g w' a c d)
end
structure Mv(X w:World)(S:Nat->Prop)(W:World):Prop where
 ext:Ext X W
 base:X.heap.size<=w.heap.size
 low:∀ k,S k->X.heap.size<=k
 size:w.heap.size<=W.heap.size
 fr:∀ k cs t,¬ S k->ax w k cs t->ax W k cs t
section
variable {X w W W':World} {S S':Nat->Prop}
theorem Mv.refl(hX:Ext X w)(hS:∀ k,S k->X.heap.size<=k):Mv X w S w:=⟨hX,hX.size,hS,Nat.le_refl _,fun _ _ _ _ h=>h⟩
theorem Mv.trans(h:Mv X w S W)(e:Ext W W'):Mv X w S W':=⟨h.ext.trans e,h.base,h.low,Nat.le_trans h.size e.size,fun k cs t hk hB=>(h.fr k cs t hk hB).ext e⟩
theorem Mv.alloc(h:Mv X w S W)(o:Obj):Mv X w S (W.alloc o):=h.trans ((Ext.refl _).alloc o)
theorem Mv.drew(h:Mv X w S W):Mv X w S W.drew:=h.trans (Ext.refl _).drew
theorem Mv.setCell(h:Mv X w S W){p:Addr}(hp:S p.block∨w.heap.size<=p.block)(u:Value):Mv X w S (W.setCell p u) :=
 ⟨h.ext.setCell (hp.elim (h.low _) (fun e=>Nat.le_trans h.base e)) u,h.base,h.low,by rw[World.size_setCell];exact h.size,fun k cs t hk hB=>(h.fr k cs t hk hB).other u (fun e=>hp.elim (fun hs=>hk (e▸hs)) (fun hs=>by have:=hB.lt;omega))⟩
theorem Mv.comp(h:Mv X w S W)(k:Mv X W S' W')(hs:∀ k,S' k->S k∨w.heap.size<=k):Mv X w S W' :=
 ⟨k.ext,h.base,h.low,Nat.le_trans h.size k.size,fun q cs t hq hB=>k.fr q cs t (fun h'=>(hs q h').elim hq (fun e=>by have:=hB.lt;omega)) (h.fr q cs t hq hB)⟩
theorem Mv.mono(h:Mv X w S W)(hs:∀ k,S k->S' k)(hl:∀ k,S' k->X.heap.size<=k):Mv X w S' W:=⟨h.ext,h.base,hl,h.size,fun k cs t hk hB=>h.fr k cs t (fun h'=>hk (hs k h')) hB⟩
theorem Mv.aF(h:Mv X w S W){k:Nat}{cs:Array Value}{t:TypeId}(hB:ax w k cs t)(hk:¬ S k):ax W k cs t:=h.fr k cs t hk hB
theorem Mv.none(h:Mv w w (fun _=>False) W):Ext w W:=h.ext
end
inductive Ke where
 | val (v:Value)
 | aJ
 | off
 | ev (v:Value)
def Ke.known:Ke->Option Value
 | .val v=>some v
 | .ev v=>some v
 | _=>none
def up(L:Nat->Bool)(i:Nat):Nat->Bool:=fun s=>L s || (s == i)
def ug(g:Nat->Value)(i:Nat)(v:Value):Nat->Value:=fun j=>if j=i then v else g j
theorem av{L:Nat->Bool}{i j:Nat}(h:i≠j):up L i j=L j:=by
 unfold up;have:(j == i)=false:=by simpa using fun e=>h e.symm
 rw[this,Bool.or_false]
theorem aE(L:Nat->Bool)(i:Nat):up L i i=true:=by simp[up]
theorem aw{g:Nat->Value}{i j:Nat}{v:Value}(h:i≠j):ug g i v j=g j:=if_neg fun e=>h e.symm
theorem aH(g:Nat->Value)(i:Nat)(v:Value):ug g i v i=v:=if_pos rfl
def mJ(ops:Array Oper)(l:List Ke):Bool :=
 l.length == ops.size && (List.range l.length).all fun i=>match l[i]?,ops[i]? with
  | some k, some o => (match o.guard with
      | none => (match k with
          | .off=>false
          | _=>true)
      | some (j, want) => (match l[j]? with
          | some (.val (.bool b)) => (match k with
              | .off=>b != want
              | _=>b == want)
          | some .off => (match k with
              | .off=>true
              | _=>false)
          | _=>false))
  | _,_=>false
theorem kt{ops:Array Oper}{l:List Ke}(h:mJ ops l=true):l.length=ops.size:=by
 simp only[mJ,Bool.and_eq_true,beq_iff_eq] at h;exact h.1
theorem yI {ops:Array Oper} {l:List Ke} (h:mJ ops l=true) {i:Nat} {k:Ke} {o:Oper} (hk:l[i]?=some k) (ho:ops[i]?=some o) :
    (o.guard=none->k ≠ .off)/\(∀ j want,o.guard=some (j,want)->(∃ b,l[j]?=some (.val (.bool b))/\((k = .off/\b≠want)∨(k ≠ .off/\b=want)))∨(l[j]?=some .off/\k = .off)):=by
 simp only[mJ,Bool.and_eq_true,beq_iff_eq] at h;have:=List.all_eq_true.1 h.2 i (by simpa using(List.getElem?_eq_some_iff.1 hk).1);simp only[hk,ho] at this;refine⟨fun hg e=>?_,fun j want hg=>?_⟩
 ·subst e;simp[hg] at this
 ·simp only[hg] at this;cases hj:l[j]? with
  | none=>simp[hj] at this
  | some kj =>
   simp only[hj] at this;cases kj with
   | off=>cases k <;> simp at this ⊢
   | aJ=>cases k <;> simp at this
   | ev _=>cases k <;> simp at this
   | val v =>
    cases v with
    | bool b =>
     refine Or.inl ⟨b,rfl,?_⟩;cases k with
     | off=>exact Or.inl ⟨rfl,by simpa using this⟩
     | val _=>exact Or.inr ⟨by simp,by simpa using this⟩
     | aJ=>exact Or.inr ⟨by simp,by simpa using this⟩
     | ev _=>exact Or.inr ⟨by simp,by simpa using this⟩
    | _=>simp at this
section
variable {P:Program} {Q:Exit->Act->World->Prop} {X w0:World} {S:Nat->Prop} {E:(Nat->Bool)->(Nat->Value)->World->Prop} {ops:Array Oper} {l:List Ke} {a0:Act}
structure tm(X w0:World)(S:Nat->Prop)(E:(Nat->Bool)->(Nat->Value)->World->Prop)(a0:Act)(ops:Array Oper)(l:List Ke)(g:Nat->Value)(listed:Array Bool)(a:Act)(w:World):Prop where
 mv:Mv X w0 S w
 e:E (lv listed) g w
 defers:a.defers=a0.defers
 size:a.tmps.size=a0.tmps.size
 off:∀ t,(∀ i,aP ops i=some t->lv listed i=false)->a.tmps[t]?=a0.tmps[t]?
 done:∀ i,i<ops.size->lv listed i=true->Hd ops i a (g i)/\(∀ v,(l[i]?).bind Ke.known=some v->g i=v)/\(l[i]?=some .off->g i=undef)
 shut:∀ i j,i<ops.size->lv listed i=true->cq ops j i=true->lv listed j=true
theorem tm.deep{g:Nat->Value}{listed:Array Bool}{a:Act}{w:World}(I:tm X w0 S E a0 ops l g listed a w){j:Nat}:∀ {f i:Nat},fO ops j f i=true->i<ops.size->lv listed i=true->lv listed j=true
 | 0,i,h,_,_=>by cases h
 | f+1,i,h,hi,hl=>by
  simp only[fO,Bool.or_eq_true,List.any_eq_true,List.mem_range,Bool.and_eq_true] at h;rcases h with h|⟨k,hk,h1,h2⟩
  ·exact I.shut i j hi hl h
  ·exact I.deep h2 ae (I.shut i k hi hl h1)
structure aV(X w0:World)(S:Nat->Prop)(E:(Nat->Bool)->(Nat->Value)->World->Prop)(ops:Array Oper)(l:List Ke)(g:Nat->Value)(L:Nat->Bool)(i:Nat)(a0 a:Act)(w:World):Prop where
 mv:Mv X w0 S w
 e:E L g w
 out:∀ t,(∀ j,aP ops j=some t->L j=false)->a.eval (.tmp t)=a0.eval (.tmp t)
 dep:∀ j,cq ops j i=true->∀ d,aP ops j=some d->a.eval (.tmp d)=g j
 vals:∀ j v,cq ops j i=true->(l[j]?).bind Ke.known=some v->g j=v
 offs:∀ j,cq ops j i=true->l[j]?=some .off->g j=undef
 yes:∀ j,fO ops j ops.size i=true->L j=true
 no:∀ j,j<ops.size->fO ops i ops.size j=true->L j=false
 not:L i=false
def bQ(P:Program)(Q:Exit->Act->World->Prop)(X w0:World)(S:Nat->Prop)(E:(Nat->Bool)->(Nat->Value)->World->Prop)(L:Nat->Bool)(g:Nat->Value)(i:Nat)(o:Oper)(k:Ke)(a:Act)(w:World):Prop :=
 match k with
 | .val v=>∀ K:Act->World->Prop,(∀ w',Ext w w'->K (a.put o.dst v) w')->o.wp P a w K Q
 | .aJ=>∀ K:Act->World->Prop,(∀ v w',Mv X w0 S w'->E (up L i) (ug g i v) w'->K (a.put o.dst v) w')->o.wp P a w K Q
 | .ev v=>∀ K:Act->World->Prop,(∀ w',Mv X w0 S w'->E (up L i) (ug g i v) w'->K (a.put o.dst v) w')->o.wp P a w K Q
 | .off=>True
def aB(P:Program)(Q:Exit->Act->World->Prop)(X w0:World)(S:Nat->Prop)(E:(Nat->Bool)->(Nat->Value)->World->Prop)(ops:Array Oper)(l:List Ke)(a0:Act):Nat->List Oper->List Ke->Prop
 | i,o :: os,k :: ks=>(∀ (L:Nat->Bool) (g:Nat->Value) (a:Act) (w:World),aV X w0 S E ops l g L i a0 a w->bQ P Q X w0 S E L g i o k a w)/\aB P Q X w0 S E ops l a0 (i+1) os ks
 | _,_,_=>True
theorem aB.cons {i:Nat} {o:Oper} {os:List Oper} {k:Ke} {ks:List Ke}
    (h:∀ (L:Nat->Bool) (g:Nat->Value) (a:Act) (w:World),aV X w0 S E ops l g L i a0 a w->bQ P Q X w0 S E L g i o k a w) (hs:aB P Q X w0 S E ops l a0 (i+1) os ks):aB P Q X w0 S E ops l a0 i (o :: os) (k :: ks):=⟨h,hs⟩
theorem aB.nil{i:Nat}:aB P Q X w0 S E ops l a0 i [] []:=trivial
theorem RV {i:Nat} {o:Oper} {os:List Oper} {v:Value} {ks:List Ke}
    (h:∀ {L:Nat->Bool} {g:Nat->Value} {w:World} (a:Act),aV X w0 S E ops l g L i a0 a w->∀ K:Act->World->Prop,Hid (∀ w',Ext w w'->K (a.put o.dst v) w')->o.wp P a w K Q) (hs:aB P Q X w0 S E ops l a0 (i+1) os ks):aB P Q X w0 S E ops l a0 i (o :: os) (.val v :: ks):=⟨fun _ _ a _ s K hK=>h a s K (aj hK),hs⟩
theorem RO{i:Nat}{o:Oper}{os:List Oper}{ks:List Ke}(hs:aB P Q X w0 S E ops l a0 (i+1) os ks):aB P Q X w0 S E ops l a0 i (o :: os) (.off :: ks):=⟨fun _ _ _ _ _=>trivial,hs⟩
theorem dS{K:Act->World->Prop}{a:Act}{w:World}(h:Hid (∀ w',Ext w w'->K a w')):K a w:=h.out _ (Ext.refl _)
theorem aB.at:∀ {i:Nat} {os:List Oper} {ks:List Ke},aB P Q X w0 S E ops l a0 i os ks->∀ j o k,os[j]?=some o->ks[j]?=some k->∀ (L:Nat->Bool) (g:Nat->Value) (a:Act) (w:World),aV X w0 S E ops l g L (i+j) a0 a w->bQ P Q X w0 S E L g (i+j) o k a w
 | i,o :: os,k :: ks,h,0,o',k',ho,hk=>by
  simp only[List.getElem?_cons_zero,Option.some.injEq] at ho hk;subst ho;subst hk;exact h.1
 | i,o :: os,k :: ks,h,j+1,o',k',ho,hk=>by
  have:=h.2.at j o' k' (by simpa using ho) (by simpa using hk);rwa[show i+1+j=i+(j+1) by omega] at this
 | i,[],_,_,j,o',k',ho,hk=>by simp at ho
 | i,_ :: _,[],_,j,o',k',ho,hk=>by simp at hk
theorem bQ.val{L:Nat->Bool}{g:Nat->Value}{i:Nat}{o:Oper}{v:Value}{a:Act}{w:World}(h:∀ K:Act->World->Prop,Hid (∀ w',Ext w w'->K (a.put o.dst v) w')->o.wp P a w K Q):bQ P Q X w0 S E L g i o (.val v) a w:=fun K hK=>h K (aj hK)
theorem bQ.aJ{L:Nat->Bool}{g:Nat->Value}{i:Nat}{o:Oper}{a:Act}{w:World}(h:∀ K:Act->World->Prop,Hid (∀ v w',Mv X w0 S w'->E (up L i) (ug g i v) w'->K (a.put o.dst v) w')->o.wp P a w K Q):bQ P Q X w0 S E L g i o .aJ a w:=fun K hK=>h K (aj hK)
theorem bQ.ev{L:Nat->Bool}{g:Nat->Value}{i:Nat}{o:Oper}{v:Value}{a:Act}{w:World}(h:∀ K:Act->World->Prop,Hid (∀ w',Mv X w0 S w'->E (up L i) (ug g i v) w'->K (a.put o.dst v) w')->o.wp P a w K Q):bQ P Q X w0 S E L g i o (.ev v) a w:=fun K hK=>h K (aj hK)
theorem bQ.off{L:Nat->Bool}{g:Nat->Value}{i:Nat}{o:Oper}{a:Act}{w:World}:bQ P Q X w0 S E L g i o .off a w:=trivial
def notYet(ops:Array Oper)(i t:Nat):Bool:=(List.range ops.size).all fun j=>aP ops j != some t || j == i || fO ops i ops.size j
theorem aV.old{g:Nat->Value}{L:Nat->Bool}{i:Nat}{a:Act}{w:World}(h:aV X w0 S E ops l g L i a0 a w)(t:Nat)(ht:notYet ops i t=true:=by kernel_rfl):a.tmps[t]?.getD undef=a0.eval (.tmp t) :=
 Act.raw <| h.out t fun j e=>by
  have hj:=fN e;have:=(List.all_eq_true.1 ht) j (by simpa using hj);simp only[e,bne_self_eq_false,Bool.false_or,Bool.or_eq_true,beq_iff_eq] at this;rcases this with h1|h1
  ·rw[h1];exact h.not
  ·exact h.no j hj h1
theorem aV.is{g:Nat->Value}{L:Nat->Bool}{i:Nat}{a:Act}{w:World}(h:aV X w0 S E ops l g L i a0 a w)(t:Nat)(v:Value)(e:a0.eval (.tmp t) = v:=by exact rfl)(ht:notYet ops i t=true:=by kernel_rfl):a.tmps[t]?.getD undef = v:=(h.old t ht).trans e
theorem aV.val{g:Nat->Value}{L:Nat->Bool}{i:Nat}{a:Act}{w:World}{v:Value}{d:Nat}(h:aV X w0 S E ops l g L i a0 a w)(j:Nat)(hj:cq ops j i=true:=by rfl)(hd:aP ops j=some d:=by rfl)(hk:l[j]?=some (.val v):=by rfl):a.tmps[d]?.getD undef=v:=by
 rw[Act.raw (h.dep j hj d hd)];exact h.vals j v hj (by rw[hk];rfl)
theorem aV.ev{g:Nat->Value}{L:Nat->Bool}{i:Nat}{a:Act}{w:World}{v:Value}{d:Nat}(h:aV X w0 S E ops l g L i a0 a w)(j:Nat)(hj:cq ops j i=true:=by rfl)(hd:aP ops j=some d:=by rfl)(hk:l[j]?=some (.ev v):=by rfl):a.tmps[d]?.getD undef=v:=by
 rw[Act.raw (h.dep j hj d hd)];exact h.vals j v hj (by rw[hk];rfl)
theorem aV.aJ{g:Nat->Value}{L:Nat->Bool}{i:Nat}{a:Act}{w:World}{d:Nat}(h:aV X w0 S E ops l g L i a0 a w)(j:Nat)(hj:cq ops j i=true:=by rfl)(hd:aP ops j=some d:=by rfl):a.tmps[d]?.getD undef=g j:=Act.raw (h.dep j hj d hd)
theorem aV.un{g:Nat->Value}{L:Nat->Bool}{i:Nat}{a:Act}{w:World}{d:Nat}(h:aV X w0 S E ops l g L i a0 a w)(j:Nat)(hj:cq ops j i=true:=by rfl)(hd:aP ops j=some d:=by rfl)(hk:l[j]?=some .off:=by rfl):a.tmps[d]?.getD undef=undef:=by
 rw[Act.raw (h.dep j hj d hd)];exact h.offs j hj hk
-- the usual operation of a drawn region: what it reads,by number (R1,R2),as it was (RI),by terms (J1 .. J4);the walk's simp does the rest. What comes next stands ahead of what Lean finds by itself
theorem R1 {i : Nat} {o : Oper} {os : List Oper} {v : Value} {ks : List Ke} {u : Value} {d : Nat} (j : Nat) (hs : aB P Q X w0 S E ops l a0 (i + 1) os ks) (hj : cq ops j i = true := by rfl) (hd : aP ops j = some d := by rfl) (hk : l[j]? = some (.val u) := by rfl)
    (h:∀ (a:Act) (w:World),a.tmps[d]?.getD undef=u->∀ K:Act->World->Prop,Hid (∀ w',Ext w w'->K (a.put o.dst v) w')->o.wp P a w K Q:=by intro A_ W_ q_ K_ hK_;go_simp;exact dS hK_):aB P Q X w0 S E ops l a0 i (o :: os) (.val v :: ks) :=
 RV (fun a s K hK=>h a _ (s.val j hj hd hk) K hK) hs
theorem R2 {i : Nat} {o : Oper} {os : List Oper} {v : Value} {ks : List Ke} {u u' : Value} {d d' : Nat} (j j' : Nat) (hs : aB P Q X w0 S E ops l a0 (i + 1) os ks) (hj : cq ops j i = true := by rfl) (hd : aP ops j = some d := by rfl) (hk : l[j]? = some (.val u) := by rfl)
    (hj':cq ops j' i=true:=by rfl) (hd':aP ops j'=some d':=by rfl) (hk':l[j']?=some (.val u'):=by rfl)
    (h:∀ (a:Act) (w:World),a.tmps[d]?.getD undef=u->a.tmps[d']?.getD undef=u'->∀ K:Act->World->Prop,Hid (∀ w',Ext w w'->K (a.put o.dst v) w')->o.wp P a w K Q:=by intro A_ W_ q_ q'_ K_ hK_;go_simp;exact dS hK_):aB P Q X w0 S E ops l a0 i (o :: os) (.val v :: ks) :=
 RV (fun a s K hK=>h a _ (s.val j hj hd hk) (s.val j' hj' hd' hk') K hK) hs
theorem RI {i : Nat} {o : Oper} {os : List Oper} {v : Value} {ks : List Ke} (t : Nat) (u : Value) (hs : aB P Q X w0 S E ops l a0 (i + 1) os ks) (e : a0.eval (.tmp t) = u := by exact rfl) (ht : notYet ops i t = true := by kernel_rfl)
    (h:∀ (a:Act) (w:World),a.tmps[t]?.getD undef=u->∀ K:Act->World->Prop,Hid (∀ w',Ext w w'->K (a.put o.dst v) w')->o.wp P a w K Q:=by intro A_ W_ q_ K_ hK_;go_simp;exact dS hK_):aB P Q X w0 S E ops l a0 i (o :: os) (.val v :: ks) :=
 RV (fun a s K hK=>h a _ ((s.old t ht).trans e) K hK) hs
theorem J1 {i:Nat} {o:Oper} {os:List Oper} {v:Value} {ks:List Ke} {C0:Act->World->Prop} (c0:∀ {L:Nat->Bool} {g:Nat->Value} {a:Act} {w:World},aV X w0 S E ops l g L i a0 a w->C0 a w) (hs:aB P Q X w0 S E ops l a0 (i+1) os ks)
    (h:∀ (a:Act) (w:World),C0 a w->∀ K:Act->World->Prop,Hid (∀ w',Ext w w'->K (a.put o.dst v) w')->o.wp P a w K Q:=by intro A_ W_ q0_ K_ hK_;go_simp;exact dS hK_):aB P Q X w0 S E ops l a0 i (o :: os) (.val v :: ks) :=
 RV (fun a s K hK=>h a _ (c0 s) K hK) hs
theorem J2 {i:Nat} {o:Oper} {os:List Oper} {v:Value} {ks:List Ke} {C0 C1:Act->World->Prop} (c0:∀ {L:Nat->Bool} {g:Nat->Value} {a:Act} {w:World},aV X w0 S E ops l g L i a0 a w->C0 a w) (c1:∀ {L:Nat->Bool} {g:Nat->Value} {a:Act} {w:World},aV X w0 S E ops l g L i a0 a w->C1 a w) (hs:aB P Q X w0 S E ops l a0 (i+1) os ks)
    (h:∀ (a:Act) (w:World),C0 a w->C1 a w->∀ K:Act->World->Prop,Hid (∀ w',Ext w w'->K (a.put o.dst v) w')->o.wp P a w K Q:=by intro A_ W_ q0_ q1_ K_ hK_;go_simp;exact dS hK_):aB P Q X w0 S E ops l a0 i (o :: os) (.val v :: ks) :=
 RV (fun a s K hK=>h a _ (c0 s) (c1 s) K hK) hs
theorem J3 {i:Nat} {o:Oper} {os:List Oper} {v:Value} {ks:List Ke} {C0 C1 C2:Act->World->Prop} (c0:∀ {L:Nat->Bool} {g:Nat->Value} {a:Act} {w:World},aV X w0 S E ops l g L i a0 a w->C0 a w) (c1:∀ {L:Nat->Bool} {g:Nat->Value} {a:Act} {w:World},aV X w0 S E ops l g L i a0 a w->C1 a w) (c2:∀ {L:Nat->Bool} {g:Nat->Value} {a:Act} {w:World},aV X w0 S E ops l g L i a0 a w->C2 a w) (hs:aB P Q X w0 S E ops l a0 (i+1) os ks)
    (h:∀ (a:Act) (w:World),C0 a w->C1 a w->C2 a w->∀ K:Act->World->Prop,Hid (∀ w',Ext w w'->K (a.put o.dst v) w')->o.wp P a w K Q:=by intro A_ W_ q0_ q1_ q2_ K_ hK_;go_simp;exact dS hK_):aB P Q X w0 S E ops l a0 i (o :: os) (.val v :: ks) :=
 RV (fun a s K hK=>h a _ (c0 s) (c1 s) (c2 s) K hK) hs
theorem J4 {i:Nat} {o:Oper} {os:List Oper} {v:Value} {ks:List Ke} {C0 C1 C2 C3:Act->World->Prop} (c0:∀ {L:Nat->Bool} {g:Nat->Value} {a:Act} {w:World},aV X w0 S E ops l g L i a0 a w->C0 a w) (c1:∀ {L:Nat->Bool} {g:Nat->Value} {a:Act} {w:World},aV X w0 S E ops l g L i a0 a w->C1 a w) (c2:∀ {L:Nat->Bool} {g:Nat->Value} {a:Act} {w:World},aV X w0 S E ops l g L i a0 a w->C2 a w) (c3:∀ {L:Nat->Bool} {g:Nat->Value} {a:Act} {w:World},aV X w0 S E ops l g L i a0 a w->C3 a w) (hs:aB P Q X w0 S E ops l a0 (i+1) os ks)
    (h:∀ (a:Act) (w:World),C0 a w->C1 a w->C2 a w->C3 a w->∀ K:Act->World->Prop,Hid (∀ w',Ext w w'->K (a.put o.dst v) w')->o.wp P a w K Q:=by intro A_ W_ q0_ q1_ q2_ q3_ K_ hK_;go_simp;exact dS hK_):aB P Q X w0 S E ops l a0 i (o :: os) (.val v :: ks) :=
 RV (fun a s K hK=>h a _ (c0 s) (c1 s) (c2 s) (c3 s) K hK) hs
theorem K1 {i : Nat} {o : Oper} {os : List Oper} {v : Value} {ks : List Ke} {f : FuncId} {ar : Array Value} {C0 : Act -> World -> Prop} (c0 : ∀ {L : Nat -> Bool} {g : Nat -> Value} {a : Act} {w : World}, aV X w0 S E ops l g L i a0 a w -> C0 a w) (x : ∀ {L : Nat -> Bool} {g : Nat -> Value} {a : Act} {w : World}, aV X w0 S E ops l g L i a0 a w -> Calls P f ar w (fun e w' => e = .returned v /\ Ext w w')) (hs : aB P Q X w0 S E ops l a0 (i + 1) os ks)
    (h:∀ (a:Act) (w:World),C0 a w->Hid (Calls P f ar w (fun e w'=>e = .returned v/\Ext w w'))->∀ K:Act->World->Prop,Hid (∀ w',Ext w w'->K (a.put o.dst v) w')->o.wp P a w K Q:=by intro A_ W_ q0_ x_ K_ hK_;go_simp;refine x_.out.mono ?_;rintro e W9_ ⟨rfl,e9_⟩;exact hK_.o _ e9_):aB P Q X w0 S E ops l a0 i (o :: os) (.val v :: ks) :=
 RV (fun a s K hK=>h a _ (c0 s) (aj (x s)) K hK) hs
theorem K2 {i : Nat} {o : Oper} {os : List Oper} {v : Value} {ks : List Ke} {f : FuncId} {ar : Array Value} {C0 C1 : Act -> World -> Prop} (c0 : ∀ {L : Nat -> Bool} {g : Nat -> Value} {a : Act} {w : World}, aV X w0 S E ops l g L i a0 a w -> C0 a w) (c1 : ∀ {L : Nat -> Bool} {g : Nat -> Value} {a : Act} {w : World}, aV X w0 S E ops l g L i a0 a w -> C1 a w) (x : ∀ {L : Nat -> Bool} {g : Nat -> Value} {a : Act} {w : World}, aV X w0 S E ops l g L i a0 a w -> Calls P f ar w (fun e w' => e = .returned v /\ Ext w w')) (hs : aB P Q X w0 S E ops l a0 (i + 1) os ks)
    (h:∀ (a:Act) (w:World),C0 a w->C1 a w->Hid (Calls P f ar w (fun e w'=>e = .returned v/\Ext w w'))->∀ K:Act->World->Prop,Hid (∀ w',Ext w w'->K (a.put o.dst v) w')->o.wp P a w K Q:=by intro A_ W_ q0_ q1_ x_ K_ hK_;go_simp;refine x_.out.mono ?_;rintro e W9_ ⟨rfl,e9_⟩;exact hK_.o _ e9_):aB P Q X w0 S E ops l a0 i (o :: os) (.val v :: ks) :=
 RV (fun a s K hK=>h a _ (c0 s) (c1 s) (aj (x s)) K hK) hs
theorem K3 {i : Nat} {o : Oper} {os : List Oper} {v : Value} {ks : List Ke} {f : FuncId} {ar : Array Value} {C0 C1 C2 : Act -> World -> Prop} (c0 : ∀ {L : Nat -> Bool} {g : Nat -> Value} {a : Act} {w : World}, aV X w0 S E ops l g L i a0 a w -> C0 a w) (c1 : ∀ {L : Nat -> Bool} {g : Nat -> Value} {a : Act} {w : World}, aV X w0 S E ops l g L i a0 a w -> C1 a w) (c2 : ∀ {L : Nat -> Bool} {g : Nat -> Value} {a : Act} {w : World}, aV X w0 S E ops l g L i a0 a w -> C2 a w) (x : ∀ {L : Nat -> Bool} {g : Nat -> Value} {a : Act} {w : World}, aV X w0 S E ops l g L i a0 a w -> Calls P f ar w (fun e w' => e = .returned v /\ Ext w w')) (hs : aB P Q X w0 S E ops l a0 (i + 1) os ks)
    (h:∀ (a:Act) (w:World),C0 a w->C1 a w->C2 a w->Hid (Calls P f ar w (fun e w'=>e = .returned v/\Ext w w'))->∀ K:Act->World->Prop,Hid (∀ w',Ext w w'->K (a.put o.dst v) w')->o.wp P a w K Q:=by intro A_ W_ q0_ q1_ q2_ x_ K_ hK_;go_simp;refine x_.out.mono ?_;rintro e W9_ ⟨rfl,e9_⟩;exact hK_.o _ e9_):aB P Q X w0 S E ops l a0 i (o :: os) (.val v :: ks) :=
 RV (fun a s K hK=>h a _ (c0 s) (c1 s) (c2 s) (aj (x s)) K hK) hs
theorem M1 {i : Nat} {o : Oper} {os : List Oper} {v : Value} {ks : List Ke} {f : FuncId} {ar : Array Value} {C0 : Act -> World -> Prop} (c0 : ∀ {L : Nat -> Bool} {g : Nat -> Value} {a : Act} {w : World}, aV X w0 S E ops l g L i a0 a w -> C0 a w) (x : ∀ {L : Nat -> Bool} {g : Nat -> Value} {a : Act} {w : World}, aV X w0 S E ops l g L i a0 a w -> Calls P f ar w (fun e w' => e = .returned v /\ w = w')) (hs : aB P Q X w0 S E ops l a0 (i + 1) os ks)
    (h:∀ (a:Act) (w:World),C0 a w->Hid (Calls P f ar w (fun e w'=>e = .returned v/\w=w'))->∀ K:Act->World->Prop,Hid (∀ w',Ext w w'->K (a.put o.dst v) w')->o.wp P a w K Q:=by intro A_ W_ q0_ x_ K_ hK_;go_simp;refine x_.out.mono ?_;rintro e _ ⟨rfl,rfl⟩;exact dS hK_):aB P Q X w0 S E ops l a0 i (o :: os) (.val v :: ks) :=
 RV (fun a s K hK=>h a _ (c0 s) (aj (x s)) K hK) hs
theorem M2 {i : Nat} {o : Oper} {os : List Oper} {v : Value} {ks : List Ke} {f : FuncId} {ar : Array Value} {C0 C1 : Act -> World -> Prop} (c0 : ∀ {L : Nat -> Bool} {g : Nat -> Value} {a : Act} {w : World}, aV X w0 S E ops l g L i a0 a w -> C0 a w) (c1 : ∀ {L : Nat -> Bool} {g : Nat -> Value} {a : Act} {w : World}, aV X w0 S E ops l g L i a0 a w -> C1 a w) (x : ∀ {L : Nat -> Bool} {g : Nat -> Value} {a : Act} {w : World}, aV X w0 S E ops l g L i a0 a w -> Calls P f ar w (fun e w' => e = .returned v /\ w = w')) (hs : aB P Q X w0 S E ops l a0 (i + 1) os ks)
    (h:∀ (a:Act) (w:World),C0 a w->C1 a w->Hid (Calls P f ar w (fun e w'=>e = .returned v/\w=w'))->∀ K:Act->World->Prop,Hid (∀ w',Ext w w'->K (a.put o.dst v) w')->o.wp P a w K Q:=by intro A_ W_ q0_ q1_ x_ K_ hK_;go_simp;refine x_.out.mono ?_;rintro e _ ⟨rfl,rfl⟩;exact dS hK_):aB P Q X w0 S E ops l a0 i (o :: os) (.val v :: ks) :=
 RV (fun a s K hK=>h a _ (c0 s) (c1 s) (aj (x s)) K hK) hs
def Ke.value(g:Nat->Value)(i:Nat):Ke->Value
 | .val v=>v
 | .aJ=>g i
 | .off=>undef
 | .ev v=>v
def isVal:Option Ke->Bool
 | some .aJ=>false
 | some (.ev _)=>false
 | none=>false
 | _=>true
def jZ(a0:Act)(ops:Array Oper)(l:List Ke)(g:Nat->Value):Nat->Act
 | 0=>a0
 | n+1=>(jZ a0 ops l g n).put (aP ops n) (((l[n]?).map (Ke.value g n)).getD undef)
theorem oz {g:Nat->Value} (ho:dD ops a0.tmps.size=true):∀ n,(jZ a0 ops l g n).tmps.size=a0.tmps.size/\(jZ a0 ops l g n).defers=a0.defers /\
    ∀ t,(∀ i d,i<n->aP ops i=some d->d=t->(jZ a0 ops l g n).tmps[t]?=some (((l[i]?).map (Ke.value g i)).getD undef))/\((∀ i,i<n->aP ops i≠some t)->(jZ a0 ops l g n).tmps[t]?=a0.tmps[t]?)
 | 0=>⟨rfl,rfl,fun t=>⟨fun i d hi=>absurd hi ae,fun _=>rfl⟩⟩
 | n+1=>by
  obtain⟨h1,h2,h3⟩:=oz ho n (g:=g);refine⟨by show((jZ a0 ops l g n).put _ _).tmps.size=_;rw[Act.jN,h1],by show((jZ a0 ops l g n).put _ _).defers=_;rw[Act.k8,h2],fun t=>⟨fun i d hi hd e=>?_,fun h=>?_⟩⟩
  ·subst e;show((jZ a0 ops l g n).put _ _).tmps[d]?=_;rw[Act.dz];by_cases e:i=n
   ·subst e;rw[if_pos ⟨hd,by rw[h1];exact pS ho hd⟩]
   ·rw[if_neg (fun h=>e (lC ho hd h.1))];exact(h3 d).1 i d ae hd rfl
  ·show((jZ a0 ops l g n).put _ _).tmps[t]?=_;rw[Act.dz,if_neg (fun h2=>h n ae h2.1)];exact(h3 t).2 (fun i hi=>h i ae)
theorem tm.step {g:Nat->Value} {listed:Array Bool} {a:Act} {w:World} {i:Nat}
    (ho:dD ops a0.tmps.size=true) (hk:mJ ops l=true) (hE1:∀ L g w w',E L g w->Ext w w'->E L g w') (hE2:∀ i v L g w,isVal (l[i]?)=true->E L g w->E (up L i) (ug g i v) w)
    (hrun:∀ j o k,ops[j]?=some o->l[j]?=some k->∀ (L:Nat->Bool) (g:Nat->Value) (a:Act) (w:World),aV X w0 S E ops l g L j a0 a w->bQ P Q X w0 S E L g j o k a w)
    (I:tm X w0 S E a0 ops l g listed a w) (hi:i ∈ Region.ready .any ops listed):wpOp P ops Q i (fun a' w'=>∃ g,tm X w0 S E a0 ops l g (listed.setIfInBounds i true) a' w') a w:=by
 obtain⟨h0,o,hoi,hall⟩:=mem_ready.1 hi;have hlt:i<ops.size:=(Array.getElem?_eq_some_iff.1 hoi).1;have hll:=kt hk;obtain⟨k,hki⟩:∃ k,l[i]?=some k:=⟨l[i]'(by omega),by simp[hll,hlt]⟩
 obtain⟨c3,c4⟩:=yI hk hki hoi;obtain⟨b1,b2,b3⟩:=eC ho hoi;have hoD:aP ops i=o.dst:=by simp[cf,hoi]
 have h9:lv listed i=false:=h0;have hdep:∀ j,cq ops j i=true->lv listed j=true:=fun j hj=>by
  rw[mw] at hj;rw[hoi] at hj;simp only[Array.any_eq_true',Bool.and_eq_true,beq_iff_eq] at hj;obtain⟨e,he,hb,rfl⟩:=hj;have:=hall e he hb;rcases Nat.lt_or_ge e.on listed.size with h|h
  ·simpa[lv,Array.getD,h] using this
  ·simp[lv,Array.getD,Nat.not_lt.2 h]
 have hdst:∀ {v d},aP ops i=some d->(a.put (aP ops i) v).tmps[d]?=some v:=fun {v d} hd=>by
  rw[Act.dz,if_pos ⟨hd,by rw[I.size];exact pS ho hd⟩]
 have seen:aV X w0 S E ops l g (lv listed) i a0 a w:=⟨I.mv,I.e,fun t ht=>Act.oB (I.off t ht),fun j hj d hd=>Act.lB ((I.done j (by have:=gY ho hj;omega) (hdep j hj)).1 d hd),
  fun j v hj hv=>(I.done j (by have:=gY ho hj;omega) (hdep j hj)).2.1 v hv,
  fun j hj hv=>(I.done j (by have:=gY ho hj;omega) (hdep j hj)).2.2 hv,
  fun j hj=>by
   have:∀ {f:Nat},fO ops j f i=true->lv listed j=true:=fun {f} h=>by
    cases f with
    | zero=>cases h
    | succ f =>
     simp only[fO,Bool.or_eq_true,List.any_eq_true,List.mem_range,Bool.and_eq_true] at h;rcases h with h|⟨q,hq,q1,q2⟩
     ·exact hdep j h
     ·exact I.deep q2 (by have:=gY ho q1;omega) (hdep q q1)
   exact this hj,
  (fun j hj hd=>by
   cases hL:lv listed j with
   | false=>rfl
   | true=>exact absurd (I.deep hd hj hL) (by rw[h9];decide)),h9⟩
 have R:bQ P Q X w0 S E (lv listed) g i o k a w:=hrun i o k hoi hki _ g a w seen;have hup:lv (listed.setIfInBounds i true)=up (lv listed) i:=funext fun s=>gT
 have next:∀ v w',Mv X w0 S w'->E (up (lv listed) i) (ug g i v) w'->(∀ u,(l[i]?).bind Ke.known=some u->v=u)->(l[i]?=some .off->v=undef)->tm X w0 S E a0 ops l (ug g i v) (listed.setIfInBounds i true) (a.put o.dst v) w':=fun v w' hm he hv1 hv2=>by
  refine⟨hm,by rw[hup];exact he,by rw[Act.k8];exact I.defers,by rw[Act.jN];exact I.size,fun t ht=>?_,fun j hj hl=>?_,fun j q hj hl hd=>?_⟩
  ·rw[Act.dz,if_neg (fun h=>by have:=ht i (by rw[hoD];exact h.1);rw[hup,aE] at this;cases this)];refine I.off t (fun j hj=>?_);have:=ht j hj;rw[hup] at this;unfold up at this;simp only[Bool.or_eq_false_iff] at this;exact this.1
  ·by_cases hji:j=i
   ·subst hji;refine⟨fun d hd=>?_,fun u hu=>?_,fun hu=>?_⟩
    ·rw[aH,← hoD];exact hdst hd
    ·rw[aH];exact hv1 u hu
    ·rw[aH];exact hv2 hu
   ·rw[hup,av (fun e=>hji e.symm)] at hl;obtain⟨d1,d2,d3⟩:=I.done j hj hl;rw[aw (fun e=>hji e.symm)];refine⟨fun d hd=>?_,d2,d3⟩;rw[Act.dz,if_neg (fun h=>hji (lC ho hd (by rw[hoD];exact h.1)))];exact d1 d hd
  ·rw[hup] at hl ⊢;by_cases hqi:q=i
   ·rw[hqi];exact aE _ _
   ·rw[av (fun e=>hqi e.symm)];by_cases hji:j=i
    ·exact hdep q (hji▸hd)
    ·rw[av (fun e=>hji e.symm)] at hl;exact I.shut j q hj hl hd
 have Wd:(Region.wanted o (yielded ops a.tmps)=true/\k ≠ .off)∨(Region.wanted o (yielded ops a.tmps)=false/\k = .off):=by
  cases hg:o.guard with
  | none=>exact Or.inl ⟨by simp[Region.wanted,hg],c3 hg⟩
  | some jw =>
   obtain⟨j,want⟩:=jw;obtain⟨hdj,d,hd⟩:=b3 j want hg;obtain⟨D1,D2,D3⟩:=I.done j (by have:=gY ho hdj;omega) (hdep j hdj);have h2:(ops[j]?).bind (·.dst)=some d:=by rw[← cf];exact hd
   rcases c4 j want hg with⟨b,hb,h⟩|⟨hb,h⟩
   ·have hy:yielded ops a.tmps j=some b:=by
     have h1:a.tmps[d]?=some (.bool b):=by rw[← D2 (.bool b) (by rw[hb];rfl)];exact D1 d hd
     simp[yielded,h2,h1]
    rcases h with⟨rfl,hne⟩|⟨hne,rfl⟩
    ·exact Or.inr ⟨by simp[Region.wanted,hg,hy,hne],rfl⟩
    ·exact Or.inl ⟨by simp[Region.wanted,hg,hy],hne⟩
   ·have hy:yielded ops a.tmps j=none:=by
     have h1:a.tmps[d]?=some undef:=by rw[← D3 hb];exact D1 d hd
     simp[yielded,h2,h1,undef]
    exact Or.inr ⟨by simp[Region.wanted,hg,hy],h⟩
 refine wpOp_step hoi fun K' hK'=>?_
 rcases Wd with⟨hw,hne⟩|⟨hw,rfl⟩
 ·rw[if_pos hw];cases k with
  | off=>exact absurd rfl hne
  | val v =>
   exact R K' fun w' hx=>hK' _ _ ⟨ug g i v,next v w' (I.mv.trans hx) (hE1 _ _ _ _ (hE2 i v _ _ _ (by rw[hki];rfl) I.e) hx) (fun u hu=>by rw[hki] at hu;exact Option.some.inj hu) (fun hu=>by rw[hki] at hu;cases hu)⟩
  | aJ =>
   exact R K' fun v w' hm he=>hK' _ _ ⟨ug g i v,next v w' hm he (fun u hu=>by rw[hki] at hu;cases hu) (fun hu=>by rw[hki] at hu;cases hu)⟩
  | ev v =>
   exact R K' fun w' hm he=>hK' _ _ ⟨ug g i v,next v w' hm he (fun u hu=>by rw[hki] at hu;exact Option.some.inj hu) (fun hu=>by rw[hki] at hu;cases hu)⟩
 ·rw[if_neg (by rw[hw];decide)];exact hK' _ _ ⟨ug g i undef,next undef w I.mv (hE2 i undef _ _ _ (by rw[hki];rfl) I.e) (fun u hu=>by rw[hki] at hu;cases hu) (fun _=>rfl)⟩
theorem vk {id : Nat} {w : World} (hm : P.follows .mixedOrders = true) (ho : dD ops a0.tmps.size = true) (hk : mJ ops l = true) (hX : Mv X w S w) (hE0 : ∀ g, E (fun s => !decide (s < ops.size)) g w.drew)
    (hE1:∀ L g w w',E L g w->Ext w w'->E L g w') (hE2:∀ i v L g w,isVal (l[i]?)=true->E L g w->E (up L i) (ug g i v) w)
    (hrun:∀ j o k,ops[j]?=some o->l[j]?=some k->∀ (L:Nat->Bool) (g:Nat->Value) (a:Act) (w1:World),aV X w S E ops l g L j a0 a w1->bQ P Q X w S E L g j o k a w1)
    (hend:∀ (g:Nat->Value) (w':World),Mv X w S w'->E (fun _=>true) g w'->Q .normal (jZ a0 ops l g ops.size) w') :
    (Code.region id ops true).wp P Q a0 w:=by
 refine wp_region_any hm (ka (fun listed a w'=>∃ g,tm X w S E a0 ops l g listed a w') ?_ ?_ ops.size _ a0 w.drew (by simp) ?_ ⟨fun _=>undef,?_⟩)
 ·intro listed a w1 i _ ⟨g,I⟩ hi;exact I.step ho hk hE1 hE2 hrun hi
 ·intro listed a w1 hs ⟨g,I⟩ hr;have up':=zx ho hr;have ll:=kt hk;have ea:a=jZ a0 ops l g ops.size:=by
   obtain⟨f1,f2,f3⟩:=oz (l:=l) (g:=g) ho ops.size;have et:a.tmps=(jZ a0 ops l g ops.size).tmps:=by
    apply Array.ext_getElem?;intro t;by_cases h:∃ i,aP ops i=some t
    ·obtain⟨i,hi⟩:=h;have hil:=fN hi;rw[(f3 t).1 i t hil hi rfl];obtain⟨D1,D2,D3⟩:=I.done i hil (up' i hil);obtain⟨k,hki⟩:∃ k,l[i]?=some k:=⟨l[i]'(by omega),by simp[ll,hil]⟩
     rw[hki];cases k with
     | val u=>rw[D1 t hi,D2 u (by rw[hki];rfl)];rfl
     | ev u=>rw[D1 t hi,D2 u (by rw[hki];rfl)];rfl
     | aJ=>rw[D1 t hi];rfl
     | off=>rw[D1 t hi,D3 hki];rfl
    ·have h':∀ i,aP ops i≠some t:=fun i e=>h ⟨i,e⟩
     rw[I.off t (fun i e=>absurd e (h' i)),(f3 t).2 (fun i _=>h' i)]
   have ed:a.defers=(jZ a0 ops l g ops.size).defers:=I.defers.trans f2.symm;cases a;simp only at et ed;rw[et,ed]
  rw[ea];have eL:lv listed=fun _=>true:=funext fun s=>by
   by_cases h:s<ops.size
   ·exact up' s h
   ·have:¬ s<listed.size:=ae;simp[lv,Array.getD,this]
  exact hend g w1 I.mv (eL▸I.e)
 ·exact Nat.le_trans List.countP_le_length (by simp)
 ·have eL:lv (Array.replicate ops.size false)=fun s=>!decide (s<ops.size):=funext fun s=>by
   by_cases h:s<ops.size <;> simp[lv,h]
  exact { mv:=hX.drew,e:=by rw[eL];exact hE0 _,defers:=rfl,size:=rfl,off:=fun _ _=>rfl,done:=fun i hi h=>(by simp[lv,hi] at h),shut:=fun i j hi h=>(by simp[lv,hi] at h) }
def fT(g:Nat->Value):Nat->List Oper->List Ke->List (Option Tmp × Value)
 | i,o :: os,k :: ks=>(o.dst,k.value g i) :: fT g (i+1) os ks
 | _,_,_=>[]
theorem ow {l:List Ke} {g:Nat->Value}:∀ {i:Nat} {os:List Oper} {ks:List Ke},(∀ j,ops.toList[i+j]?=os[j]?)->(∀ j,l[i+j]?=ks[j]?)->os.length=ks.length ->
    fT g i os ks=(List.range' i os.length).map fun i=>(aP ops i,((l[i]?).map (Ke.value g i)).getD undef)
 | i,[],[],_,_,_=>rfl
 | i,[],_ :: _,_,_,h=>by simp at h
 | i,_ :: _,[],_,_,h=>by simp at h
 | i,o :: os,k :: ks,ho,hk,hl=>by
  have e1:ops.toList[i]?=some o:=by simpa using ho 0
  have e2:l[i]?=some k:=by simpa using hk 0
  rw[List.length_cons,List.range'_succ,List.map_cons,← ow (l:=l) (os:=os) (ks:=ks) (fun j=>by have:=ho (j+1);rw[show i+1+j=i+(j+1) by omega,this];rfl) (fun j=>by have:=hk (j+1);rw[show i+1+j=i+(j+1) by omega,this];rfl) (by simpa using hl)];simp[fT,aP,e1,e2]
theorem oA{g:Nat->Value}:∀ n,jZ a0 ops l g n=bD a0 ((List.range n).map fun i=>(aP ops i,((l[i]?).map (Ke.value g i)).getD undef))
 | 0=>rfl
 | n+1=>by
  rw[List.range_succ,List.map_append,List.map_cons,List.map_nil,kl,← oA n];rfl
theorem aD {os:List Oper} {id:Nat} {a0:Act} {w:World} (l:List Ke) (E:(Nat->Bool)->(Nat->Value)->World->Prop) (hm:P.follows .mixedOrders=true) (ho:dD os.toArray a0.tmps.size=true) (hk:mJ os.toArray l=true) (hX:Mv X w S w)
    (hE0:∀ g,E (fun s=>!decide (s<os.toArray.size)) g w.drew) (hE1:∀ L g w w',E L g w->Ext w w'->E L g w') (hE2:∀ i v L g w,isVal (l[i]?)=true->E L g w->E (up L i) (ug g i v) w)
    (hrun:aB P Q X w S E os.toArray l a0 0 os l)
    (hend:∀ (g:Nat->Value) (w':World),Mv X w S w'->E (fun _=>true) g w'->Q .normal (bD a0 (fT g 0 os l)) w') :
    (Code.region id os.toArray true).wp P Q a0 w:=by
 have hl:=kt hk;refine vk hm ho hk hX hE0 hE1 hE2 (fun j o k hj hkj=>?_) (fun g w' a b=>?_)
 ·have:=hrun.at j o k (by simpa using hj) hkj;simpa using this
 ·have:=hend g w' a b;rw[ow (ops:=os.toArray) (l:=l) (fun j=>by simp) (fun j=>by simp) (by simpa using hl.symm),← List.range_eq_range',← oA] at this;simpa using this
end
end Go.Proofs.YtmahadmefplbnaaGreatDoor
