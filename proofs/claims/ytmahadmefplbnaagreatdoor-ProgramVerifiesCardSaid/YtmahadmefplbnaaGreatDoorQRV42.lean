/- Part 42. -/
import Derived.Test.YtmahadmefplbnaaGreatDoorQRV34
import Derived.Test.YtmahadmefplbnaaGreatDoorQRV40
set_option maxRecDepth 100000
set_option maxHeartbeats 2000000
set_option linter.unusedVariables false
namespace Go.Proofs.YtmahadmefplbnaaGreatDoor
open Go Go.RowKit
def TxG (s:ByteArray):Prop:=s.size<=1000000/\(rq s=true->∃ x,s=qs x/\QB 20 x)
theorem TxG.short {s:ByteArray} (h:s.size<=20):TxG s:=⟨Nat.le_trans h (by decide),fun hr=>by
 obtain ⟨q,hq⟩:=right_q hr;rw [hq] at h;exact ⟨q,hq,qb_of_size h⟩⟩
def TxV (H:Nat->Value) (m:Nat):Prop:=∀ i,i<m->∃ s:ByteArray,H i = .string s/\TxG s
def TxS (X w:World) (v:Value) (n:Nat):Prop:=n<=1000/\∃ G,Osl X w 34 1 v n G/\TxV G n
theorem TxL.tv {w:World} {v:Value} {m:Nat} {t:Nat->ByteArray} (h:TxL w v m t):TxV (fun i => .string (t i)) m:=fun i hi=>⟨t i,rfl,h.sz i hi,h.q i hi⟩
section
variable {X Y w w0 w':World} {v:Value} {n:Nat}
theorem TxS.lsl (h:TxS X w v n):∃ a c,v = .slice a n c:=let ⟨_,_,o,_⟩:=h;o.lsl
theorem TxS.ext (h:TxS X w v n) (e:Ext w w'):TxS X w' v n:=let ⟨a,G,o,r⟩:=h;⟨a,G,o.ext e,r⟩
theorem TxS.mv {S:Nat->Prop} (h:TxS X w0 v n) (m:Mv Y w0 S w') (hs:∀ k,vob v k->¬ S k):TxS X w' v n:=let ⟨a,G,o,r⟩:=h;⟨a,G,o.mv m hs,r⟩
theorem TxS.lt (h:TxS X w v n) {k:Nat} (hk:vob v k):X.heap.size<=k/\k<w.heap.size:=let ⟨_,_,o,_⟩:=h;o.lt hk
theorem TxS.not {k:Nat} {C:Array Value} {t:TypeId} (h:TxS X w v n) (b:Blk w k C t) (ht:34≠t):¬ vob v k:=let ⟨_,_,o,_⟩:=h;o.not_vob b ht
theorem TxS.other (h:TxS X w v n) {a:Addr} (u:Value) (hk:¬ vob v a.block):TxS X (w.setCell a u) v n:=let ⟨a,G,o,r⟩:=h;⟨a,G,o.other u hk,r⟩
theorem TxS.empty {k:Nat} (hk:X.heap.size<=k) (h:Blk w k #[] 34):TxS X w (.slice (some ⟨k,0,none⟩) 0 0) 0:=⟨by decide,fun _ => .string ⟨#[]⟩,Osl.empty hk h,fun i hi=>absurd hi (Nat.not_lt_zero i)⟩
theorem TxS.set {b c j:Nat} {s:ByteArray} (h:TxS X w (.slice (some ⟨b,0,none⟩) n c) n) (hj:j<n) (hs:TxG s):TxS X (w.setCell ⟨b,j,none⟩ (.string s)) (.slice (some ⟨b,0,none⟩) n c) n:=by
 obtain ⟨a,G,o,r⟩:=h;refine ⟨a,fun i=>if i=j then .string s else G i,?_,fun i hi=>?_⟩
 ·rcases o with ⟨e,_⟩|⟨k,cap,C,e,e2,e3,e4,e5,e6,e7⟩
  ·cases e
  ·cases e;refine Or.inr ⟨b,c,_,rfl,e2,e3.set j (.string s),e4,e5,by rw [Array.size_setIfInBounds];exact e6,fun i hi=>?_⟩;show (C.setIfInBounds j (Value.string s))[i]?=some (if i=j then Value.string s else G i);by_cases e:i=j
   ·rw [if_pos e,e];have:=e7 j (by omega);have hl:=(Array.getElem?_eq_some_iff.1 this).1;simp [hl]
   ·rw [if_neg e,← e7 i hi,Array.getElem?_setIfInBounds_ne (fun e'=>e e'.symm)]
 ·show ∃ s',(if i=j then Value.string s else G i) = .string s'/\TxG s';by_cases e:i=j
  ·rw [if_pos e];exact ⟨s,rfl,hs⟩
  ·rw [if_neg e];exact r i hi
theorem TxS.cell {b c j:Nat} (h:TxS X w (.slice (some ⟨b,0,none⟩) n c) n) (hj:j<n):∃ C u,Blk w b C 34/\C[j]?=some (.string u):=by
 obtain ⟨a,G,o,r⟩:=h;obtain ⟨s,e,_⟩:=r j hj;rcases o with ⟨e,_⟩|⟨k,cap,C,e1,e2,e3,e4,e5,e6,e7⟩
 ·cases e
 ·cases e1;exact ⟨C,s,e3,by rw [e7 j (by omega),e]⟩
theorem TxS.blk (h:TxS X w v n) (hn:0<n):∃ b c,v = .slice (some ⟨b,0,none⟩) n c:=by
 obtain ⟨a,G,o,r⟩:=h;obtain ⟨k,cap,C,e,_⟩:=o.blk hn;exact ⟨k,cap,e⟩
theorem TxS.txl (h:TxS X w v n):∃ t,TxL w v n t:=by
 obtain ⟨a,G,o,r⟩:=h;refine ⟨fun i=>(match G i with | .string s=>s|_=>⟨#[]⟩),o.rd.congr fun i hi=>?_,fun i hi=>?_,a,fun i hi=>?_⟩
 ·obtain ⟨s,e,_⟩:=r i hi;show G i = .string (match G i with | .string s=>s|_=>⟨#[]⟩);rw [e]
 ·obtain ⟨s,e,g⟩:=r i hi;show (match G i with | .string s=>s|_=>(⟨#[]⟩:ByteArray)).size<=1000000;rw [e];exact g.1
 ·obtain ⟨s,e,g⟩:=r i hi;show rq (match G i with | .string s=>s|_=>⟨#[]⟩)=true->_;rw [e];exact g.2
end
section
variable {P:Program} {X w:World} {n m c:Nat} {v:Value} {ao:Option Addr} {H:Nat->Value}
theorem op_append_tx {o:Oper} {a:Act} {Q:Exit->Act->World->Prop} {K:Act->World->Prop} {s x:Operand} (ho:o.op = .call { callee:=.builtin .append,args:=#[s,x],argTypes:=#[30,30] })
    (hs:a.eval s=v) (hx:a.eval x = .slice ao m c) (hX:Ext X w) (h:TxS X w v n) (hr:Rd w (.slice ao m c) m H) (hH:TxV H m) (hl:n+m<=1000)
    (hK:∀ b k c w',TxS X w' (.slice b k c) (n+m)->Mv X w (vob v) w'->(∀ q,vob (.slice b k c) q->vob v q∨w.heap.size<=q)->K (a.put o.dst (.slice b k c)) w'):o.wp Tryz.prog a w K Q:=by
 obtain ⟨_,G,ho1,hG⟩:=h;have one:∀ j,j<m->(H j).oneCell'=true:=fun j hj=>by obtain ⟨s,e,_⟩:=hH j hj;rw [e];rfl
 have rt:TxV (app (n*1) G H) (n+m):=fun i hi=>by
  by_cases e:i<n
  ·rw [app_lt (by omega)];exact hG i e
  ·rw [app_ge (by omega)];have:=hH (i-n) (by omega);rwa [Nat.mul_one]
 have low:∀ k,vob v k->X.heap.size<=k:=fun k hk=>(ho1.lt hk).1
 have fin0:∀ (e:m=0) (hr:(Builtin.append_ #[30,30] o.type #[v,.slice ao m c]).run Tryz.prog w = .ok v w),o.wp Tryz.prog a w K Q:=fun e hr=>by
  obtain ⟨b,k,c',rfl⟩:=ho1.isl;unfold Oper.wp execOp;simp only [ho,resolve,invoke,builtin,Sem.run_bind,Sem.run_pure,Result.andThen_ok,List.map_toArray,List.map_cons,List.map_nil,hs,hx,hr];exact hK _ _ _ w ⟨hl,G,by rw [e,Nat.add_zero];exact ho1,by rw [e,Nat.add_zero];exact hG⟩ (Mv.refl hX low) (fun q h=>Or.inl h)
 obtain ⟨ao',c',e1,_,_,hc⟩:=hr;cases e1;by_cases hm:m=0
 ·refine fin0 hm ?_;subst hm;obtain ⟨i,hi⟩:∃ i,Tryz.prog.info? 34=some i:=by
   cases h:Tryz.prog.info? 34 with
   | none=>have:=info_s;rw [h] at this;cases this
   | some i=>exact ⟨i,rfl⟩
  have ho2:=ho1;rcases ho2 with ⟨rfl,rfl⟩|⟨k,cap,C,rfl,_,hB,hnc,_⟩
  ·cases ao <;> simp [Builtin.append_,run_underlying under_s,sizeOf,typeInfo,hi,Builtin.lenOf,Builtin.firstCells,loadCells,loadCellsFrom]
  ·cases ao <;> simp [Builtin.append_,run_underlying under_s,sizeOf,typeInfo,hi,Builtin.lenOf,Builtin.firstCells,loadCells,loadCellsFrom,hnc,storeCells]
 ·obtain ⟨ad,rfl,_⟩:=hc 0 (by omega);exact op_append2 (X:=X) (G:=G) (H:=H) ho hs hx under_s info_s rfl hX ho1 (fun _=>by omega) (fun j hj=>by obtain ⟨ad',e,h⟩:=hc j (by omega);rw [Option.some.inj e];exact h) (fun j hj=>one j (by omega)) (by unfold maxLen;omega) (by omega)
   (fun b k c w' hA=>hK b k c w' ⟨hl,_,hA.own,rt⟩ hA.mv hA.new)
end
structure TR3 (X W:World) (v1 v2 v3:Value) (n1 n2 n3:Nat):Prop where
 t1:TxS X W v1 n1
 t2:TxS X W v2 n2
 t3:TxS X W v3 n3
 d12:∀ q,vob v1 q->¬ vob v2 q
 d13:∀ q,vob v1 q->¬ vob v3 q
 d23:∀ q,vob v2 q->¬ vob v3 q
section
variable {X Y W W':World} {v1 v2 v3:Value} {n1 n2 n3:Nat}
theorem TR3.rot (h:TR3 X W v1 v2 v3 n1 n2 n3):TR3 X W v2 v3 v1 n2 n3 n1:=⟨h.t2,h.t3,h.t1,h.d23,fun q a b=>h.d12 q b a,fun q a b=>h.d13 q b a⟩
theorem TR3.ext (h:TR3 X W v1 v2 v3 n1 n2 n3) (e:Ext W W'):TR3 X W' v1 v2 v3 n1 n2 n3:=⟨h.t1.ext e,h.t2.ext e,h.t3.ext e,h.d12,h.d13,h.d23⟩
theorem TR3.alloc (h:TR3 X W v1 v2 v3 n1 n2 n3) (o:Obj):TR3 X (W.alloc o) v1 v2 v3 n1 n2 n3:=h.ext ((Ext.refl _).alloc o)
theorem TR3.drew (h:TR3 X W v1 v2 v3 n1 n2 n3):TR3 X W.drew v1 v2 v3 n1 n2 n3:=h.ext (Ext.refl _).drew
def TD (v1 v2 v3:Value) (q:Nat):Prop:=vob v1 q∨vob v2 q∨vob v3 q
theorem TR3.mv {S:Nat->Prop} (h:TR3 X W v1 v2 v3 n1 n2 n3) (m:Mv Y W S W') (hs:∀ q,TD v1 v2 v3 q->¬ S q):TR3 X W' v1 v2 v3 n1 n2 n3 :=
 ⟨h.t1.mv m fun q a=>hs q (Or.inl a),h.t2.mv m fun q a=>hs q (Or.inr (Or.inl a)),h.t3.mv m fun q a=>hs q (Or.inr (Or.inr a)),h.d12,h.d13,h.d23⟩
theorem TR3.other (h:TR3 X W v1 v2 v3 n1 n2 n3) {a:Addr} (u:Value) (hk:∀ q,TD v1 v2 v3 q->q≠a.block):TR3 X (W.setCell a u) v1 v2 v3 n1 n2 n3 :=
 ⟨h.t1.other u fun a=>hk _ (Or.inl a) rfl,h.t2.other u fun a=>hk _ (Or.inr (Or.inl a)) rfl,h.t3.other u fun a=>hk _ (Or.inr (Or.inr a)) rfl,h.d12,h.d13,h.d23⟩
theorem TR3.ne (h:TR3 X W v1 v2 v3 n1 n2 n3) {b:Nat} (hb:W.heap.size<=b):∀ q,TD v1 v2 v3 q->q≠b:=fun q d e=>by
 rcases d with d|d|d
 ·have:=(h.t1.lt d).2;omega
 ·have:=(h.t2.lt d).2;omega
 ·have:=(h.t3.lt d).2;omega
theorem TR3.apb (h:TR3 X W v1 v2 v3 n1 n2 n3) {b:Nat} {D:Array Value} {t:TypeId} (hB:Blk W b D t) (ht:34≠t):∀ q,TD v1 v2 v3 q->q≠b:=fun q d e=>by
 subst e;rcases d with d|d|d
 ·exact h.t1.not hB ht d
 ·exact h.t2.not hB ht d
 ·exact h.t3.not hB ht d
theorem TR3.set1 {b c j:Nat} {s:ByteArray} (h:TR3 X W (.slice (some ⟨b,0,none⟩) n1 c) v2 v3 n1 n2 n3) (hj:j<n1) (hs:TxG s):TR3 X (W.setCell ⟨b,j,none⟩ (.string s)) (.slice (some ⟨b,0,none⟩) n1 c) v2 v3 n1 n2 n3 :=
 ⟨h.t1.set hj hs,h.t2.other _ (h.d12 b rfl),h.t3.other _ (h.d13 b rfl),h.d12,h.d13,h.d23⟩
theorem TR3.app1 {v':Value} {m:Nat} (h:TR3 X W v1 v2 v3 n1 n2 n3) (own:TxS X W' v' m) (mv:Mv X W (vob v1) W') (new:∀ q,vob v' q->vob v1 q∨W.heap.size<=q):TR3 X W' v' v2 v3 m n2 n3 :=
 ⟨own,h.t2.mv mv fun q a b=>h.d12 q b a,h.t3.mv mv fun q a b=>h.d13 q b a,fun q a b=>(new q a).elim (fun c=>h.d12 q c b) (fun c=>by have:=(h.t2.lt b).2;omega),fun q a b=>(new q a).elim (fun c=>h.d13 q c b) (fun c=>by have:=(h.t3.lt b).2;omega),h.d23⟩
end
def LS (w W:World) (a b:Bool) (x y:Value) (m:Nat):Prop:=(a=true->∃ k,x = .slice (some ⟨k,0,none⟩) 0 0/\w.heap.size<=k/\k<W.heap.size/\(b=false->Blk W k #[] 34))/\(b=true->TxS w W y m)
def LO (a b:Bool) (x y:Value) (q:Nat):Prop:=(a=true/\vob x q)∨(b=true/\vob y q)
section
variable {w W W':World} {a b:Bool} {x y:Value} {m:Nat}
theorem LS.nil {x y:Value} {m:Nat}:LS w W false false x y m:=⟨(fun h=>by cases h),(fun h=>by cases h)⟩
theorem LS.lt (h:LS w W a b x y m):∀ q,LO a b x y q->q<W.heap.size:=fun q d=>d.elim (fun ⟨e,v⟩=>by
 obtain ⟨k,rfl,_,hk,_⟩:=h.1 e;rw [← vob_some.1 v];exact hk) (fun ⟨e,v⟩=>((h.2 e).lt v).2)
theorem LS.ext (h:LS w W a b x y m) (e:Ext W W'):LS w W' a b x y m:=⟨fun h1=>let ⟨k,a,b,c,d⟩:=h.1 h1;⟨k,a,b,Nat.lt_of_lt_of_le c e.size,fun h2=>(d h2).ext e⟩,fun h1=>(h.2 h1).ext e⟩
theorem LS.mv {S:Nat->Prop} (h:LS w W a b x y m) (mv:Mv w W S W') (hs:∀ q,LO a b x y q->¬ S q):LS w W' a b x y m :=
 ⟨fun h1=>let ⟨k,e,f,g,d⟩:=h.1 h1;⟨k,e,f,Nat.lt_of_lt_of_le g mv.size,fun h2=>mv.blk (d h2) (hs k (Or.inl ⟨h1,by rw [e];exact vob_some.2 rfl⟩))⟩,fun h1=>(h.2 h1).mv mv fun q hq=>hs q (Or.inr ⟨h1,hq⟩)⟩
end
structure L3 (w W:World) (a1 b1 a2 b2 a3 b3:Bool) (x1 y1 x2 y2 x3 y3:Value) (m1 m2 m3:Nat):Prop where
 s1:LS w W a1 b1 x1 y1 m1
 s2:LS w W a2 b2 x2 y2 m2
 s3:LS w W a3 b3 x3 y3 m3
 d12:∀ q,LO a1 b1 x1 y1 q->¬ LO a2 b2 x2 y2 q
 d13:∀ q,LO a1 b1 x1 y1 q->¬ LO a3 b3 x3 y3 q
 d23:∀ q,LO a2 b2 x2 y2 q->¬ LO a3 b3 x3 y3 q
section
variable {w W W':World} {a1 b1 a2 b2 a3 b3:Bool} {x1 y1 x2 y2 x3 y3:Value} {m1 m2 m3:Nat}
theorem L3.nil:L3 w W false false false false false false x1 y1 x2 y2 x3 y3 m1 m2 m3:=by
 have no:∀ {x y:Value} (q:Nat),¬ LO false false x y q:=fun q h=>h.elim (fun h=>by cases h.1) (fun h=>by cases h.1)
 exact ⟨LS.nil,LS.nil,LS.nil,fun q h=>(no q h).elim,fun q h=>(no q h).elim,fun q h=>(no q h).elim⟩
theorem L3.ext (h:L3 w W a1 b1 a2 b2 a3 b3 x1 y1 x2 y2 x3 y3 m1 m2 m3) (e:Ext W W'):L3 w W' a1 b1 a2 b2 a3 b3 x1 y1 x2 y2 x3 y3 m1 m2 m3:=⟨h.s1.ext e,h.s2.ext e,h.s3.ext e,h.d12,h.d13,h.d23⟩
theorem L3.rot (h:L3 w W a1 b1 a2 b2 a3 b3 x1 y1 x2 y2 x3 y3 m1 m2 m3):L3 w W a2 b2 a3 b3 a1 b1 x2 y2 x3 y3 x1 y1 m2 m3 m1:=⟨h.s2,h.s3,h.s1,h.d23,fun q a b=>h.d12 q b a,fun q a b=>h.d13 q b a⟩
theorem L3.new1 (h:L3 w W false false a2 b2 a3 b3 x1 y1 x2 y2 x3 y3 m1 m2 m3) (hw:w.heap.size<=W.heap.size):L3 w (W.alloc (.cells #[] 34)) true false a2 b2 a3 b3 (.slice (some ⟨W.heap.size,0,none⟩) 0 0) y1 x2 y2 x3 y3 m1 m2 m3:=by
 have e:Ext W (W.alloc (.cells #[] 34)):=(Ext.refl _).alloc _;have no:∀ q,LO true false (.slice (some ⟨W.heap.size,0,none⟩) 0 0) y1 q->q=W.heap.size:=fun q h=>h.elim (fun h=>(vob_some.1 h.2).symm) (fun h=>by cases h.1)
 refine ⟨⟨fun _=>⟨_,rfl,hw,by rw [World.size_alloc];omega,fun _=>Blk.new _ _ _⟩,fun h=>by cases h⟩,h.s2.ext e,h.s3.ext e,fun q a b=>?_,fun q a b=>?_,h.d23⟩
 ·have:=h.s2.lt q b;have:=no q a;omega
 ·have:=h.s3.lt q b;have:=no q a;omega
theorem L3.app1 {v':Value} (h:L3 w W true false a2 b2 a3 b3 x1 y1 x2 y2 x3 y3 m1 m2 m3) (own:TxS w W' v' m1) (mv:Mv w W (vob x1) W') (new:∀ q,vob v' q->vob x1 q∨W.heap.size<=q):L3 w W' true true a2 b2 a3 b3 x1 v' x2 y2 x3 y3 m1 m2 m3:=by
 refine ⟨⟨fun _=>let ⟨k,a,b,c,_⟩:=h.s1.1 rfl;⟨k,a,b,Nat.lt_of_lt_of_le c mv.size,fun h=>by cases h⟩,fun _=>own⟩,h.s2.mv mv fun q a b=>h.d12 q (Or.inl ⟨rfl,b⟩) a,h.s3.mv mv fun q a b=>h.d13 q (Or.inl ⟨rfl,b⟩) a,fun q a b=>?_,fun q a b=>?_,h.d23⟩
 ·rcases a with ⟨_,a⟩|⟨_,a⟩
  ·exact h.d12 q (Or.inl ⟨rfl,a⟩) b
  ·exact (new q a).elim (fun c=>h.d12 q (Or.inl ⟨rfl,c⟩) b) (fun c=>by have:=h.s2.lt q b;omega)
 ·rcases a with ⟨_,a⟩|⟨_,a⟩
  ·exact h.d13 q (Or.inl ⟨rfl,a⟩) b
  ·exact (new q a).elim (fun c=>h.d13 q (Or.inl ⟨rfl,c⟩) b) (fun c=>by have:=h.s3.lt q b;omega)
theorem L3.all (h:L3 w W true true true true true true x1 y1 x2 y2 x3 y3 m1 m2 m3):TR3 w W y1 y2 y3 m1 m2 m3 :=
 ⟨h.s1.2 rfl,h.s2.2 rfl,h.s3.2 rfl,fun q a b=>h.d12 q (Or.inr ⟨rfl,a⟩) (Or.inr ⟨rfl,b⟩),fun q a b=>h.d13 q (Or.inr ⟨rfl,a⟩) (Or.inr ⟨rfl,b⟩),fun q a b=>h.d23 q (Or.inr ⟨rfl,a⟩) (Or.inr ⟨rfl,b⟩)⟩
end
structure TRF (X W:World) (V:Nat->Value) (n:Nat->Nat):Prop where
 t:∀ i,i<3->TxS X W (V i) (n i)
 d:∀ i j,i<3->j<3->i≠j->∀ q,vob (V i) q->¬ vob (V j) q
def updV (V:Nat->Value) (k:Nat) (v:Value) (i:Nat):Value:=if i=k then v else V i
def updn (n:Nat->Nat) (k m:Nat) (i:Nat):Nat:=if i=k then m else n i
def three (a b c:Value) (i:Nat):Value:=if i=0 then a else if i=1 then b else c
def threen (a b c:Nat) (i:Nat):Nat:=if i=0 then a else if i=1 then b else c
theorem lt3 {i:Nat} (h:i<3):i=0∨i=1∨i=2:=by omega
section
variable {X Y W W':World} {V:Nat->Value} {n:Nat->Nat} {k:Nat}
theorem TR3.f {v1 v2 v3:Value} {n1 n2 n3:Nat} (h:TR3 X W v1 v2 v3 n1 n2 n3):TRF X W (three v1 v2 v3) (threen n1 n2 n3):=by
 refine ⟨fun i hi=>?_,fun i j hi hj hne q=>?_⟩
 ·rcases lt3 hi with rfl|rfl|rfl
  ·exact h.t1
  ·exact h.t2
  ·exact h.t3
 ·rcases lt3 hi with rfl|rfl|rfl <;> rcases lt3 hj with rfl|rfl|rfl
  ·exact absurd rfl hne
  ·exact h.d12 q
  ·exact h.d13 q
  ·exact fun a b=>h.d12 q b a
  ·exact absurd rfl hne
  ·exact h.d23 q
  ·exact fun a b=>h.d13 q b a
  ·exact fun a b=>h.d23 q b a
  ·exact absurd rfl hne
theorem TRF.ext (h:TRF X W V n) (e:Ext W W'):TRF X W' V n:=⟨fun i hi=>(h.t i hi).ext e,h.d⟩
theorem TRF.alloc (h:TRF X W V n) (o:Obj):TRF X (W.alloc o) V n:=h.ext ((Ext.refl _).alloc o)
theorem TRF.drew (h:TRF X W V n):TRF X W.drew V n:=h.ext (Ext.refl _).drew
def TDF (V:Nat->Value) (q:Nat):Prop:=∃ i,i<3/\vob (V i) q
theorem TRF.mv {S:Nat->Prop} (h:TRF X W V n) (m:Mv Y W S W') (hs:∀ q,TDF V q->¬ S q):TRF X W' V n:=⟨fun i hi=>(h.t i hi).mv m fun q a=>hs q ⟨i,hi,a⟩,h.d⟩
theorem TRF.other (h:TRF X W V n) {a:Addr} (u:Value) (hk:∀ q,TDF V q->q≠a.block):TRF X (W.setCell a u) V n:=⟨fun i hi=>(h.t i hi).other u fun v=>hk _ ⟨i,hi,v⟩ rfl,h.d⟩
theorem TRF.ne (h:TRF X W V n) {b:Nat} (hb:W.heap.size<=b):∀ q,TDF V q->q≠b:=fun q ⟨i,hi,v⟩ e=>by have:=((h.t i hi).lt v).2;omega
theorem TRF.apb (h:TRF X W V n) {b:Nat} {D:Array Value} {t:TypeId} (hB:Blk W b D t) (ht:34≠t):∀ q,TDF V q->q≠b:=fun q ⟨i,hi,v⟩ e=>by subst e;exact (h.t i hi).not hB ht v
theorem TRF.set {b c j:Nat} {s:ByteArray} (h:TRF X W V n) (hk:k<3) (e:V k = .slice (some ⟨b,0,none⟩) (n k) c) (hj:j<n k) (hs:TxG s):TRF X (W.setCell ⟨b,j,none⟩ (.string s)) V n:=by
 refine ⟨fun i hi=>?_,h.d⟩;by_cases ei:i=k
 ·subst ei;have:=h.t i hi;rw [e] at this ⊢;exact this.set hj hs
 ·exact (h.t i hi).other _ (h.d k i hk hi (fun e=>ei e.symm) b (by rw [e];exact vob_some.2 rfl))
theorem TRF.app {v':Value} {m:Nat} (h:TRF X W V n) (hk:k<3) (own:TxS X W' v' m) (mv:Mv X W (vob (V k)) W') (new:∀ q,vob v' q->vob (V k) q∨W.heap.size<=q):TRF X W' (updV V k v') (updn n k m):=by
 have nw:∀ i,i<3->i≠k->∀ q,vob v' q->¬ vob (V i) q:=fun i hi hne q a b=>(new q a).elim (fun c=>h.d k i hk hi (fun e=>hne e.symm) q c b) (fun c=>by have:=((h.t i hi).lt b).2;omega)
 refine ⟨fun i hi=>?_,fun i j hi hj hne q=>?_⟩
 ·by_cases e:i=k
  ·rw [updV,updn,if_pos e,if_pos e];exact own
  ·rw [updV,updn,if_neg e,if_neg e];exact (h.t i hi).mv mv fun q a b=>h.d k i hk hi (fun x=>e x.symm) q b a
 ·by_cases e:i=k
  ·rw [updV,updV,if_pos e,if_neg (fun x=>hne (e.trans x.symm))];exact nw j hj (fun x=>hne (e.trans x.symm)) q
  ·by_cases e2:j=k
   ·rw [updV,updV,if_neg e,if_pos e2];exact fun a b=>nw i hi e q b a
   ·rw [updV,updV,if_neg e,if_neg e2];exact h.d i j hi hj hne q
theorem cells_at (hk:k<3):(#[V 0,V 1,V 2]:Array Value)[k]?=some (V k):=by rcases lt3 hk with rfl|rfl|rfl <;> rfl
theorem cells_upd (hk:k<3) (v:Value):(#[V 0,V 1,V 2]:Array Value).setIfInBounds k v=#[updV V k v 0,updV V k v 1,updV V k v 2]:=by rcases lt3 hk with rfl|rfl|rfl <;> rfl
theorem TRF.three (h:TRF X W V n):TR3 X W (V 0) (V 1) (V 2) (n 0) (n 1) (n 2):=⟨h.t 0 (by decide),h.t 1 (by decide),h.t 2 (by decide),h.d 0 1 (by decide) (by decide) (by decide),h.d 0 2 (by decide) (by decide) (by decide),h.d 1 2 (by decide) (by decide) (by decide)⟩
end
end Go.Proofs.YtmahadmefplbnaaGreatDoor
