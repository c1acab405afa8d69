/- Part 16. -/
import Derived.Test.YtmahadmefplbnaaGreatDoorQVLB
import Derived.Test.YtmahadmefplbnaaGreatDoorQVL13
import Derived.ArgAppend
import Derived.Lib.SmallJoins
set_option maxRecDepth 100000
set_option maxHeartbeats 2000000
namespace Go.Proofs.YtmahadmefplbnaaGreatDoor
open Go Go.RowKit
theorem wi{B:Nat}{l:List Nat}(hl:bK B l)(p:Nat)(hp:p<=l.length):mv B (l.drop p)=mv B l / B ^ p:=by
 have e:mv B l=mv B (l.take p)+B ^ p*mv B (l.drop p):=by
  conv=>lhs;rw[← List.take_append_drop p l]
  rw[jA,List.length_take,Nat.min_eq_left hp]
 have h:mv B (l.take p)<B ^ p:=by
  have:=pX (xu hl p);rwa[List.length_take,Nat.min_eq_left hp] at this
 rw[e,Nat.add_mul_div_left _ _ ae,Nat.div_eq_of_lt h,Nat.zero_add]
theorem DK{B r b top btop p:Nat}(hB:0<B)(hb:0<btop)(wI:r / B ^ p=top)(XO:btop*B ^ p<=b)(hr:r<b*B):r / b<=min (top / btop) (B-1):=by
 have hp:0<B ^ p:=Nat.pow_pos hB;have fp:0<b:=Nat.lt_of_lt_of_le (Nat.mul_pos hb hp) XO;refine Nat.le_min.2 ⟨?_,?_⟩
 ·subst wI;rw[Nat.div_div_eq_div_mul];refine Nat.div_le_div_left ?_ (Nat.mul_pos hp hb);rw[Nat.mul_comm];exact XO
 ·have:r / b<B:=Nat.div_lt_of_lt_mul hr;omega
theorem K0{B:Nat}{R M:List Nat}(hB:1<B)(cR:Canon B R)(cM:Canon B M)(kx:mv B M<=mv B R)(aP:mv B R<mv B M*B):R.length=M.length∨R.length=M.length+1:=by
 have h1:=cR.sZ ae cM kx;have h2:R.length<=M.length+1:=by
  refine mP hB cR ?_;have:=pX cM.lt
  calc mv B R<mv B M*B:=aP
   _<=B ^ M.length*B:=Nat.mul_le_mul_right _ (Nat.le_of_lt this)
   _=B ^ (M.length+1):=by rw[Nat.pow_succ]
 omega
theorem Ml{B:Nat}{M:List Nat}(h:0<M.length):M[M.length-1]?.getD 0*B ^ (M.length-1)<=mv B M:=by
 obtain⟨m,x,rfl⟩:∃ m x,M=m ++ [x]:=⟨M.dropLast,M.getLast (by intro e;subst e;simp at h),(List.dropLast_concat_getLast _).symm⟩
 simp[jJ,Nat.mul_comm]
theorem It{B:Nat}{M:List Nat}(c:Canon B M)(h:0<M.length):0<M[M.length-1]?.getD 0:=by
 obtain⟨m,x,rfl⟩:∃ m x,M=m ++ [x]:=⟨M.dropLast,M.getLast (by intro e;subst e;simp at h),(List.dropLast_concat_getLast _).symm⟩
 have:x≠0:=by intro e;subst e;exact c.last (by simp)
 simp;omega
theorem Rp{B:Nat}{R:List Nat}(c:bK B R)(h:0<R.length):mv B R / B ^ (R.length-1)=R[R.length-1]?.getD 0:=by
 rw[← wi c _ ae,List.drop_eq_getElem_cons ae];have e:R.length-1+1=R.length:=ae;rw[e,List.drop_length];simp[mv,show R.length-1<R.length by omega]
theorem Ro{B:Nat}{R:List Nat}(c:bK B R)(h:1<R.length):mv B R / B ^ (R.length-2)=R[R.length-1]?.getD 0*B+R[R.length-2]?.getD 0:=by
 rw[← wi c _ ae,List.drop_eq_getElem_cons ae,List.drop_eq_getElem_cons ae];have e:R.length-2+1+1=R.length:=ae;have e1:R.length-2+1=R.length-1:=ae;rw[e,List.drop_length];simp only[e1,mv,Nat.mul_zero,Nat.add_zero];rw[List.getElem?_eq_getElem ae,List.getElem?_eq_getElem ae];simp only[Option.getD_some,Nat.mul_comm,Nat.add_comm]
theorem nZ {P:Program} (w:World) {ops:Array Oper} {rest:List Oper} {o:Oper} {a:Act} {Q:Exit->Act->World->Prop}
    (hg:o.guard=none) (s x:Operand) (t:TypeId) (hop:o.op=Op.call { callee:=Callee.builtin Builtin.append,args:=#[s,x],argTypes:=#[t,t] })
    (e:TypeId) (i:TypeInfo) (h1:P.underlying t=some (.slice e)) (h2:P.info? e=some i) (h3:i.zero=some (.int .u64 0)) (h4:i.size=1) (h5:i.bytes=8)
    (y:Nat) (l:List Nat) (v:Value) (hs:a.eval s = .slice (some ⟨w.heap.size,0,none⟩) 1 1) (hx:a.eval x=v) (hv:Holds .u64 w v l) (hl:l.length<=100000)
    (hK:∀ ad cap w',Holds .u64 w' (.slice ad (l.length+1) cap) (y :: l)->Ext w w'->wpList P ops Q rest (a.put o.dst (.slice ad (l.length+1) cap)) w') :
    wpList P ops Q (o :: rest) a (w.alloc (.cells #[.int .u64 (y:Int)] e)):=by
 have hb:=ay.new w #[.int .u64 (y:Int)] e;have hv':=hv.ext ((Ext.refl w).alloc (.cells #[.int .u64 (y:Int)] e));obtain⟨ad,cap,b,off,rfl,k1,k2,k3,k4⟩:=hv;have kc:∀ uM,ad=some uM->∀ j u,(l.map fun(x:Nat)=>Value.int .u64 x)[j]?=some u->(w.alloc (.cells #[.int .u64 (y:Int)] e)).cell? (uM.add j)=some u:=by
  intro uM had j u hu;simp only[List.getElem?_map,Option.map_eq_some_iff] at hu;obtain⟨n,hn,rfl⟩:=hu;have hj:j<l.length:=(List.getElem?_eq_some_iff.1 hn).1;obtain⟨e1,e2⟩:=k3 ae;rw[had] at e1;obtain rfl:=Option.some.inj e1;have:=((Ext.refl w).alloc (.cells #[.int .u64 (y:Int)] e)).keeps (k4 j hj);rw[Addr.add_lit,this];simp[hn]
 have qfX:(w.alloc (.cells #[.int .u64 (y:Int)] e)).ownsRow w.heap.size e 1 (.slice (some ⟨w.heap.size,0,none⟩) 1 1) 1 [.int .u64 (y:Int)] :=
  ⟨rfl,Or.inr ⟨w.heap.size,1,#[.int .u64 (y:Int)],rfl,Nat.le_refl _,hb.out,Nat.le_refl _,af,rfl,rfl⟩⟩
 have Xz:∀ u ∈ (l.map fun(x:Nat)=>Value.int .u64 x),u.oneCell'=true:=by
  intro u hu;obtain⟨_,_,rfl⟩:=List.mem_map.1 hu;rfl
 have k9:∀ v' w',w'.ownsRow w.heap.size e 1 v' (1+l.length) ([Value.int .u64 (y:Int)] ++ l.map fun(x:Nat)=>Value.int .u64 x)->Ext w w'->wpList P ops Q rest (a.put o.dst v') w':=by
  intro v' w' ho he;have hh:Holds .u64 w' v' (y :: l):=Holds.fm (n:=1+l.length) (by simpa using ho);obtain⟨uM,Lq,b',qf0,rfl,q1,q2,q3,q4⟩:=hh;exact hK _ _ _ ⟨uM,Lq,b',qf0,rfl,q1,q2,q3,q4⟩ he
 by_cases h0:l.length=0
 ·obtain rfl:l=[]:=List.length_eq_zero_iff.1 h0;refine wpList_plain hg fun K LV=>?_
  have ng:(Builtin.append_ #[t,t] o.type #[.slice (some ⟨w.heap.size,0,none⟩) 1 1,.slice ad 0 cap]).run P (w.alloc (.cells #[.int .u64 (y:Int)] e)) = .ok (.slice (some ⟨w.heap.size,0,none⟩) 1 1) (w.alloc (.cells #[.int .u64 (y:Int)] e)):=by
   cases ad with
   | none=>simp[Builtin.append_,run_underlying h1,sizeOf,typeInfo,h2,Builtin.lenOf,Builtin.firstCells,storeCells]
   | some uM =>
    have hfc:=run_firstCells_some (P:=P) (w.alloc (.cells #[.int .u64 (y:Int)] e)) i.size 0 uM 0 cap [] (by simp) (fun j u h=>by simp at h);rw[h4] at hfc;simp[Builtin.append_,run_underlying h1,sizeOf,typeInfo,h2,h4,Builtin.lenOf,hfc,storeCells]
  unfold Oper.wp;simp only[List.length_nil] at hx;simp[execOp,hop,resolve,invoke,builtin,hs,hx,ng,Result.andThen];exact LV _ _ (k9 _ _ qfX ((Ext.refl w).alloc _))
 ·obtain⟨had,ow⟩:=k3 ae;subst had;refine wpList_append_grows _ hg s x t hop e i (.int .u64 0) 1 8 h1 h2 h3 h4 h5 rfl af (some ⟨w.heap.size,0,none⟩) 1 1 [.int .u64 (y:Int)] hs (fun h=>by cases h) rfl (fun b' nN j u hu=>by
   cases nN
   match j,hu with
   | 0,hu=>simp at hu;subst hu;rw[Addr.add_lit];exact hb.cell 0 rfl) ⟨b,off,none⟩ l.length cap (l.map fun(x:Nat)=>Value.int .u64 x) hx (by simp) (kc _ rfl) Xz ae (by unfold maxLen;omega) ae ?_
  intro v' w' ho hgr;refine k9 v' w' ?_ (((Ext.refl w).alloc _).grown hgr (fun k h=>by cases h));exact Go.Joins.ownsRow_le ho (by simp)
