/- Part 28. -/
import Derived.Test.YtmahadmefplbnaaGreatDoorQFVB
import Derived.Test.YtmahadmefplbnaaGreatDoorQFV27
set_option maxRecDepth 100000
set_option maxHeartbeats 2000000
open Go.Proofs.Tryz
set_option linter.unusedVariables false
namespace Go.Proofs.YtmahadmefplbnaaGreatDoor
open Go Go.RowKit
section
variable {P:LP} {T:aN} {p:Nat} {M:TM} {w w' X:World}
theorem rj.map(h:rj P T p M w)(f:∀ k C t,M.S p P.m k->aq w k C t->aq w' k C t):rj P T p M w' where
 tab:=let ⟨C,a,b⟩:=h.tab;⟨C,f _ _ _ (Or.inl rfl) a,b⟩
 jL:=fun k=>let ⟨C,a,b⟩:=h.jL k;⟨C,f _ _ _ (Or.inr (Or.inl rfl)) a,b⟩
 lin:=fun k=>let ⟨C,a,b⟩:=h.lin k;⟨C,f _ _ _ (Or.inr (Or.inr (Or.inl rfl))) a,b⟩
 oth:=fun k=>let ⟨C,a,b⟩:=h.oth k;⟨C,f _ _ _ (Or.inr (Or.inr (Or.inr (Or.inl rfl)))) a,b⟩
 wor:=fun k=>let ⟨C,a,b⟩:=h.wor k;⟨C,f _ _ _ (Or.inr (Or.inr (Or.inr (Or.inr (Or.inl rfl))))) a,b⟩
 kl:=fun k i hi=>let ⟨C,a,b⟩:=h.kl k i hi;⟨C,f _ _ _ (Or.inr (Or.inr (Or.inr (Or.inr (Or.inr ⟨i,hi,rfl⟩))))) a,b⟩
 inj:=h.inj
 fw:=h.fw
 bo:=h.bo
 caps:=h.caps
theorem we{n k cap:Nat}{x:Option Addr}{t:TypeId}{g:Nat->Value}(hc:n<=cap/\cap<=maxLen)(h:0<n->∃ C,aq w k C t/\∀ i,i<n->C[i]?=some (g i)):Rd w (.slice (oa n k x) n cap) n g :=
 ⟨_,_,rfl,hc.1,hc.2,fun i hi=>⟨⟨k,0,none⟩,gq ae,by
  obtain⟨C,a,b⟩:=h ae;have e:(⟨k,0,none⟩:Addr).add i=⟨k,i,none⟩:=by unfold Addr.add;split <;> simp_all
  rw[e];exact a.cell i (b i hi)⟩⟩
def TM.vb(M:TM)(P:LP):Value:=.slice (oa P.m M.bb M.bx) P.m M.bc
def TM.vl(M:TM)(P:LP):Value:=.slice (oa P.m M.lb M.lx) P.m M.lc
def TM.vo(M:TM)(P:LP):Value:=.slice (oa P.n M.ob M.ox) P.n M.oc
def TM.vw(M:TM)(P:LP):Value:=.slice (oa P.n M.wb M.wx) P.n M.wcap
def TM.vf(M:TM)(P:LP)(i:Nat):Value:=.slice (oa P.n (M.fb i) (M.fx i)) P.n (M.fc i)
theorem rj.tr(h:rj P T p M w):TR P T w p (M.vb P) (M.vl P) (M.vo P) (M.vw P) (M.vf P) where
 tab:=let ⟨C,a,b⟩:=h.tab;⟨C,a,b⟩
 b:=we h.caps.b h.jL
 o:=we h.caps.o h.oth
 l:=⟨_,_,rfl,h.caps.l.1,h.caps.l.2,fun i hi=>let ⟨C,a,b⟩:=h.lin ae;⟨M.lb,gq ae,a.cell _ (b i hi).1,a.cell _ (b i hi).2⟩⟩
 wf:=we h.caps.w h.wor
 f:=fun i hi=>we (h.caps.f i hi) (fun hn=>let ⟨C,a,b⟩:=h.kl hn i hi;⟨C,a,b⟩)
structure TA(X:World)(P:LP)(T:aN)(p:Nat)(M:TM)(w:World):Prop where
 mem:rj P T p M w
 up:∀ k,M.S p P.m k->X.heap.size<=k
 lt:∀ k,M.S p P.m k->k<w.heap.size
theorem TA.ext(h:TA X P T p M w)(e:Ext w w'):TA X P T p M w':=⟨h.mem.map fun _ _ _ _ b=>b.ext e,h.up,fun k hk=>Nat.lt_of_lt_of_le (h.lt k hk) e.size⟩
theorem TA.alloc(h:TA X P T p M w)(o:Obj):TA X P T p M (w.alloc o):=h.ext ((Ext.refl _).alloc o)
theorem TA.drew(h:TA X P T p M w):TA X P T p M w.drew:=h.ext (Ext.refl _).drew
theorem TA.other(h:TA X P T p M w){a:Addr}(u:Value)(hk:∀ k,M.S p P.m k->k≠a.block):TA X P T p M (w.setCell a u):=⟨h.mem.map fun k _ _ hs b=>b.other u (hk k hs),h.up,fun k hk=>by rw[World.size_setCell];exact h.lt k hk⟩
theorem TA.mv{Y:World}{S:Nat->Prop}(h:TA X P T p M w)(m:Mv Y w S w')(hs:∀ k,M.S p P.m k->¬ S k):TA X P T p M w':=⟨h.mem.map fun k _ _ hk b=>m.az b (hs k hk),h.up,fun k hk=>Nat.lt_of_lt_of_le (h.lt k hk) m.size⟩
theorem TA.ne(h:TA X P T p M w){b:Nat}(hb:w.heap.size<=b):∀ k,M.S p P.m k->k≠b:=fun k hk e=>by have:=h.lt k hk;omega
theorem TA.tr(h:TA X P T p M w):TR P T w p (M.vb P) (M.vl P) (M.vo P) (M.vw P) (M.vf P):=h.mem.tr
theorem TA.c0(h:TA X P T p M w):w.cell? ⟨p,0,none⟩=some (.int .i64 (P.n:Int)):=let ⟨_,a,b⟩:=h.mem.tab;a.cell 0 b.1
theorem TA.c1(h:TA X P T p M w):w.cell? ⟨p,1,none⟩=some (M.vb P):=let ⟨_,a,b⟩:=h.mem.tab;a.cell 1 b.2.1
theorem TA.c2(h:TA X P T p M w):w.cell? ⟨p,2,none⟩=some (M.vl P):=let ⟨_,a,b⟩:=h.mem.tab;a.cell 2 b.2.2.1
theorem TA.c3(h:TA X P T p M w):w.cell? ⟨p,3,none⟩=some (M.vo P):=let ⟨_,a,b⟩:=h.mem.tab;a.cell 3 b.2.2.2.1
theorem TA.c4(h:TA X P T p M w):w.cell? ⟨p,4,none⟩=some (.string (qs T.wc)):=let ⟨_,a,b⟩:=h.mem.tab;a.cell 4 b.2.2.2.2.1
theorem TA.c5(h:TA X P T p M w):w.cell? ⟨p,5,none⟩=some (M.vw P):=let ⟨_,a,b⟩:=h.mem.tab;a.cell 5 b.2.2.2.2.2
theorem TM.zZ{M:TM}{row kz n p m k:Nat}(h:(M.ng row kz n).S p m k):M.S p m k∨k=kz:=by
 rcases h with h|h|h|h|h|⟨i,hi,h⟩
 ·exact Or.inl (Or.inl h)
 ·exact Or.inl (Or.inr (Or.inl h))
 ·exact Or.inl (Or.inr (Or.inr (Or.inl h)))
 ·exact Or.inl (Or.inr (Or.inr (Or.inr (Or.inl h))))
 ·exact Or.inl (Or.inr (Or.inr (Or.inr (Or.inr (Or.inl h)))))
 ·simp only[TM.ng] at h;split at h
  ·exact Or.inr h
  ·exact Or.inl (Or.inr (Or.inr (Or.inr (Or.inr (Or.inr ⟨i,hi,h⟩)))))
theorem qu {q row at_:Nat} (g:Gd X) (hX:Ext X w) (h:TA X P T p M w) (hr:row<P.m) (ha:at_<P.n) (hk:T.f row at_≠0) (hn:P.n<=1000) (hm:P.m<=1000) (hq1:1<=q) (hq2:q<=400) (Q:TQ P T q) :
    Calls prog 200 #[.pointer (some ⟨p,0,none⟩),.int .i64 row,.int .i64 at_] w fun e w'=>e = .returned (.tuple #[])/\Mv X w (M.S p P.m) w'/\∃ kz,w.heap.size<=kz/\TA X P (T.aF row at_) p (M.ng row kz P.n) w' :=
 (Cs P T p M row at_ q X w g hX h.up h.mem hr ha hk hn hm hq1 hq2 Q.c Q.f Q.wc Q.wf).mono fun e w' ⟨h1,h2,kz,h3,h4⟩ =>
  ⟨h1,h2,kz,h3,h4,fun k hk=>(TM.zZ hk).elim (h.up k) (fun e=>by have:=hX.size;omega),fun k hk=>(TM.zZ hk).elim (fun hs=>Nat.lt_of_lt_of_le (h.lt k hs) h2.size) (fun e=>by
   obtain⟨C,b,_⟩:=h4.kl ae row hr;have:=b.lt;simp only[TM.ng,if_pos] at this;omega)⟩
end
end Go.Proofs.YtmahadmefplbnaaGreatDoor
