/- Part 2. -/
import Derived.Test.YtmahadmefplbnaaGreatDoorQTDA
import Derived.Test.YtmahadmefplbnaaGreatDoorQTD1
import Derived.Lib.IndexMore
import Derived.Lib.Bytealg
set_option maxRecDepth 100000
set_option maxHeartbeats 2000000
set_option linter.unusedVariables false
namespace Go.Proofs.YtmahadmefplbnaaGreatDoor
open Go
def ql(q:Rat):List UInt8:=if q.den=1 then zl q.num else zl q.num ++ 47 :: Lib.decDigits q.den
def qs(q:Rat):ByteArray:=⟨(ql q).toArray⟩
theorem dN(q:Rat):(qs q).data.toList=ql q:=by simp[qs]
theorem jK(q:Rat):(qs q).size=(ql q).length:=by simp[qs,ByteArray.size]
theorem jl(n:Int):ql (n:Rat)=zl n:=by simp[ql]
theorem po(n:Int):qs (n:Rat)=zs n:=by unfold qs zs;rw[jl]
theorem dt{q:Rat}(h:q.den=1):ql q=zl q.num:=by unfold ql;rw[if_pos h]
theorem cu{q:Rat}(h:q.den≠1):ql q=zl q.num ++ 47 :: Lib.decDigits q.den:=by unfold ql;rw[if_neg h]
theorem nN{b:UInt8}(h:cC b=true):b≠47:=by intro e;subst e;simp[cC] at h
theorem j2(u:Nat):(47:UInt8) ∉ Lib.decDigits u:=fun h=>nN (a7 u _ h) rfl
theorem cA(n:Int):(47:UInt8) ∉ zl n:=by
 by_cases h:n<0
 ·rw[bZ h];intro e;rcases List.mem_cons.1 e with e|e
  ·exact absurd e af
  ·exact j2 _ e
 ·rw[bI ae];exact j2 _
theorem iq:∀ {l l' t t':List UInt8},(47:UInt8) ∉ l->(47:UInt8) ∉ l'->l ++ 47 :: t=l' ++ 47 :: t'->l=l'/\t=t'
 | [],[],t,t',_,_,h=>⟨rfl,by simpa using h⟩
 | [],b :: l',t,t',_,h',h=>by simp at h;exact absurd h.1 (fun e=>h' (by simp[← e]))
 | a :: l,[],t,t',hl,_,h=>by simp at h;exact absurd h.1 (fun e=>hl (by simp[e]))
 | a :: l,b :: l',t,t',hl,hl',h=>by
  simp only[List.cons_append,List.cons.injEq] at h;obtain⟨e,h⟩:=h;have:=iq (fun e=>hl (List.mem_cons_of_mem _ e)) (fun e=>hl' (List.mem_cons_of_mem _ e)) h;exact⟨by rw[e,this.1],this.2⟩
theorem pr{a b:Rat}(h:ql a=ql b):a=b:=by
 by_cases ha:a.den=1 <;> by_cases hb:b.den=1
 ·rw[dt ha,dt hb] at h;exact Rat.ext (jf h) (by rw[ha,hb])
 ·rw[dt ha,cu hb] at h;exact absurd (h▸cA a.num) (by simp)
 ·rw[cu ha,dt hb] at h;exact absurd (h.symm▸cA b.num) (by simp)
 ·rw[cu ha,cu hb] at h;obtain⟨h1,h2⟩:=iq (cA _) (cA _) h;exact Rat.ext (jf h1) (pU h2)
theorem sr{a b:Rat}:qs a=qs b ↔ a=b :=
 ⟨fun h=>pr (by rw[← dN,← dN,h]),fun h=>by rw[h]⟩
theorem DC(q:Rat):ql q≠[]:=by
 by_cases h:q.den=1
 ·rw[dt h];exact qh _
 ·rw[cu h];simp
theorem qJ{q:Rat}:(ql q).head?=some 45 ↔ q.num<0:=by
 by_cases h:q.den=1
 ·rw[dt h];exact ie
 ·rw[cu h,List.head?_append];rw[← ie];cases hz:zl q.num with
  | nil=>exact absurd hz (qh _)
  | cons b t=>simp
theorem mh{q:Rat}(h:q.num<0):ql q=45 :: ql (-q):=by
 have e:zl q.num=45 :: zl (-q.num):=by rw[bZ h,bI ae,Int.natAbs_neg]
 by_cases h1:q.den=1
 ·rw[dt h1,dt (by simpa using h1),e];rfl
 ·rw[cu h1,cu (by simpa using h1),e];rfl
theorem ss{q:Rat}(h:0<q.num):ql (-q)=45 :: ql q:=by
 have:=mh (q:=-q) (by simp;omega);rw[this,Rat.neg_neg]
theorem sx{q:Rat}:ql q=[48] ↔ q=0 :=
 ⟨fun h=>pr (by rw[h];exact(by rw[show(0:Rat)=((0:Int):Rat) from rfl,jl,wV])),fun h=>by subst h;rw[show(0:Rat)=((0:Int):Rat) from rfl,jl,wV]⟩
theorem sw{q:Rat}:ql q=[49] ↔ q=1 :=
 ⟨fun h=>pr (by rw[h];exact(by rw[show(1:Rat)=((1:Int):Rat) from rfl,jl,wU])),fun h=>by subst h;rw[show(1:Rat)=((1:Int):Rat) from rfl,jl,wU]⟩
theorem cX:qs 0=⟨#[48]⟩:=by unfold qs;rw[sx.2 rfl]
theorem eS:qs 1=⟨#[49]⟩:=by unfold qs;rw[sw.2 rfl]
theorem tv:zs 0=⟨#[48]⟩:=by unfold zs;rw[wV]
theorem rU:zs 1=⟨#[49]⟩:=by unfold zs;rw[wU]
class IB(k:Nat)(n:Int):Prop where
 out:n.natAbs<10 ^ k
class QB(k:Nat)(q:Rat):Prop where
 num:q.num.natAbs<10 ^ k
 den:q.den<10 ^ k
theorem IB.mono{k m:Nat}{n:Int}(h:IB k n)(hk:k<=m):IB m n:=⟨Nat.lt_of_lt_of_le h.out (Nat.pow_le_pow_right af hk)⟩
theorem QB.mono{k m:Nat}{q:Rat}(h:QB k q)(hk:k<=m):QB m q :=
 ⟨Nat.lt_of_lt_of_le h.num (Nat.pow_le_pow_right af hk),Nat.lt_of_lt_of_le h.den (Nat.pow_le_pow_right af hk)⟩
theorem bV{a b k m:Nat}(ha:a<10 ^ k)(hb:b<10 ^ m):a*b<10 ^ (k+m):=by
 rw[Nat.pow_add];exact Nat.mul_lt_mul'' ha hb
theorem mH{a b k m:Nat}(ha:a<10 ^ k)(hb:b<10 ^ m):a+b<10 ^ (max k m+1):=by
 have h1:a<10 ^ max k m:=Nat.lt_of_lt_of_le ha (Nat.pow_le_pow_right af (Nat.le_max_left _ _));have h2:b<10 ^ max k m:=Nat.lt_of_lt_of_le hb (Nat.pow_le_pow_right af (Nat.le_max_right _ _));rw[Nat.pow_succ];omega
theorem IB.add{k m:Nat}{a b:Int}(ha:IB k a)(hb:IB m b):IB (max k m+1) (a+b) :=
 ⟨Nat.lt_of_le_of_lt (Int.natAbs_add_le _ _) (mH ha.out hb.out)⟩
theorem IB.mul{k m:Nat}{a b:Int}(ha:IB k a)(hb:IB m b):IB (k+m) (a*b) :=
 ⟨by rw[Int.natAbs_mul];exact bV ha.out hb.out⟩
theorem IB.neg{k:Nat}{a:Int}(ha:IB k a):IB k (-a):=⟨by rw[Int.natAbs_neg];exact ha.out⟩
theorem IB.of_le{k:Nat}{a b:Int}(ha:IB k a)(h:b.natAbs<=a.natAbs):IB k b:=⟨Nat.lt_of_le_of_lt h ha.out⟩
theorem jS(n:Int)(d:Nat):(mkRat n d).num.natAbs<=n.natAbs:=by
 rw[Rat.num_mkRat];split
 ·simp
 ·exact Int.natAbs_ediv_le_natAbs _ _
theorem jT(n:Int)(d:Nat)(h:d≠0):(mkRat n d).den<=d:=by
 rw[Rat.den_mkRat,if_neg h];exact Nat.div_le_self _ _
theorem QB.mk'{k:Nat}{n:Int}{d:Nat}(h0:d≠0)(h1:n.natAbs<10 ^ k)(h2:d<10 ^ k):QB k (mkRat n d) :=
 ⟨Nat.lt_of_le_of_lt (jS _ _) h1,Nat.lt_of_le_of_lt (jT _ _ h0) h2⟩
theorem QB.neg{k:Nat}{a:Rat}(ha:QB k a):QB k (-a):=⟨by rw[Rat.neg_num,Int.natAbs_neg];exact ha.num,ha.den⟩
theorem QB.add{k m:Nat}{a b:Rat}(ha:QB k a)(hb:QB m b):QB (k+m+1) (a+b):=by
 rw[Rat.add_def'];refine QB.mk' (Nat.mul_ne_zero a.den_nz b.den_nz) ?_ ?_
 ·refine Nat.lt_of_le_of_lt (Int.natAbs_add_le _ _) ?_;rw[Int.natAbs_mul,Int.natAbs_mul,Int.natAbs_natCast,Int.natAbs_natCast];have h1:=bV ha.num hb.den;have h2:=bV ha.den hb.num;rw[Nat.mul_comm b.num.natAbs,Nat.pow_succ];omega
 ·exact Nat.lt_of_lt_of_le (bV ha.den hb.den) (Nat.pow_le_pow_right af ae)
theorem QB.sub{k m:Nat}{a b:Rat}(ha:QB k a)(hb:QB m b):QB (k+m+1) (a-b):=by
 rw[Rat.sub_eq_add_neg];exact ha.add hb.neg
theorem QB.mul{k m:Nat}{a b:Rat}(ha:QB k a)(hb:QB m b):QB (k+m) (a*b):=by
 rw[Rat.mul_def'];exact QB.mk' (Nat.mul_ne_zero a.den_nz b.den_nz) (by rw[Int.natAbs_mul];exact bV ha.num hb.num) (bV ha.den hb.den)
theorem QB.inv{k:Nat}{a:Rat}(ha:QB k a)(hk:1<=k):QB k a⁻¹:=by
 constructor
 ·rw[Rat.num_inv,Int.natAbs_mul,Int.natAbs_natCast];have:a.num.sign.natAbs<=1:=by rw[Int.natAbs_sign];split <;> omega
  exact Nat.lt_of_le_of_lt (Nat.mul_le_mul_right _ this) (by rw[Nat.one_mul];exact ha.den)
 ·rw[Rat.den_inv];split
  ·exact Nat.one_lt_pow ae af
  ·exact ha.num
theorem QB.div{k m:Nat}{a b:Rat}(ha:QB k a)(hb:QB m b)(hm:1<=m):QB (k+m) (a / b):=by
 rw[Rat.div_def];exact ha.mul (hb.inv hm)
theorem QB.int{k:Nat}{n:Int}(h:IB k n)(hk:1<=k):QB k (n:Rat) :=
 ⟨h.out,Nat.one_lt_pow ae af⟩
theorem rh(a b:Int):Int.gcd b (a.tmod b)=Int.gcd a b:=by
 rw[Int.gcd_eq_natAbs_gcd_natAbs,Int.natAbs_tmod,Int.gcd_eq_natAbs_gcd_natAbs,Nat.gcd_comm,← Nat.gcd_rec,Nat.gcd_comm]
theorem gg(n:Int)(d g:Nat)(hd:d≠0)(hg:Int.gcd n d=g):(mkRat n d).num=n.tdiv g/\(mkRat n d).den=d / g:=by
 have e:d.gcd n.natAbs=g:=by rw[Nat.gcd_comm,← hg];rfl
 rw[Rat.num_mkRat,Rat.den_mkRat,if_neg hd,if_neg hd,e];refine⟨?_,rfl⟩;have hdv:(g:Int)∣n:=by rw[← hg];exact Int.gcd_dvd_left _ _
 exact(Int.tdiv_eq_ediv_of_dvd hdv).symm
def ee(n:Int)(d:Nat):List UInt8:=if d=1 then zl n else zl n ++ 47 :: Lib.decDigits d
theorem tN(q:Rat):ql q=ee q.num q.den:=rfl
theorem qI{n:Int}{d g:Nat}(hd:d≠0)(hg:Int.gcd n d=g):ql (mkRat n d)=ee (n.tdiv g) (d / g):=by
 rw[tN,(gg n d g hd hg).1,(gg n d g hd hg).2]
end Go.Proofs.YtmahadmefplbnaaGreatDoor
namespace Go.Proofs.YtmahadmefplbnaaGreatDoor
def aN:Nat->(Nat->Rat)->Rat
 | 0,_=>0
 | n+1,g=>aN n g+g n
theorem aM{n:Nat}{g h:Nat->Rat}(e:∀ j,j<n->g j=h j):aN n g=aN n h:=by
 induction n with
 | zero=>rfl
 | succ n ih=>rw[aN,aN,ih (fun j hj=>e j ae),e n ae]
theorem fW(n:Nat)(g h:Nat->Rat):aN n (fun j=>g j+h j)=aN n g+aN n h:=by
 induction n with
 | zero=>simp only[aN];grind
 | succ n ih=>simp only[aN,ih];grind
theorem aX(n:Nat)(k:Rat)(g:Nat->Rat):aN n (fun j=>k*g j)=k*aN n g:=by
 induction n with
 | zero=>simp only[aN];grind
 | succ n ih=>simp only[aN,ih];grind
theorem jG(n:Nat):aN n (fun _=>0)=0:=by
 induction n with
 | zero=>rfl
 | succ n ih=>simp only[aN,ih];grind
theorem aS{n:Nat}{g:Nat->Rat}(e:∀ j,j<n->g j=0):aN n g=0:=(aM e).trans (jG n)
theorem fA{n a:Nat}(ha:a<n)(g:Nat->Rat):aN n g=aN n (fun j=>if j=a then 0 else g j)+g a:=by
 induction n with
 | zero=>omega
 | succ n ih =>
  by_cases h:a=n
  ·subst h;have:aN a (fun j=>if j=a then 0 else g j)=aN a g:=aM (fun j hj=>if_neg ae);simp only[aN,this,if_true];grind
  ·have h2:=ih ae;have h3:(if n=a then(0:Rat) else g n)=g n:=if_neg ae;simp only[aN,h3];rw[h2];grind
theorem dx{n a:Nat}(ha:a<n)(g:Nat->Rat)(h:∀ j,j<n->j≠a->g j=0):aN n g=g a:=by
 rw[fA ha,aS (fun j hj=>by by_cases e:j=a <;> simp[e];exact h j hj e)];grind
theorem xv{n:Nat}{g h:Nat->Rat}(e:∀ j,j<n->g j<=h j):aN n g<=aN n h:=by
 induction n with
 | zero=>exact Rat.le_refl
 | succ n ih=>have h1:=ih (fun j hj=>e j ae);have h2:=e n ae;simp only[aN];grind
theorem jh{n:Nat}{g:Nat->Rat}(e:∀ j,j<n->0<=g j):0<=aN n g:=by
 have:=xv (g:=fun _=>0) e;rwa[jG] at this
theorem r5{n:Nat}{g:Nat->Rat}(e:∀ j,j<n->g j<=0):aN n g<=0:=by
 have:=xv (h:=fun _=>0) e;rwa[jG] at this
theorem qq(n m:Nat)(g:Nat->Nat->Rat):aN n (fun i=>aN m (fun j=>g i j))=aN m (fun j=>aN n (fun i=>g i j)):=by
 induction n with
 | zero=>simp only[aN];rw[jG]
 | succ n ih=>simp only[aN,ih];rw[fW]
structure LP where
 n:Nat
 m:Nat
 A:Nat->Nat->Rat
 B:Nat->Rat
 C:Nat->Rat
def LP.val(P:LP)(x:Nat->Rat)(v:Nat):Rat:=if v<P.n then x v else P.B (v-P.n)-aN P.n (fun k=>P.A (v-P.n) k*x k)
def LP.obj(P:LP)(x:Nat->Rat):Rat:=aN P.n (fun k=>P.C k*x k)
structure aO where
 c:Nat->Rat
 f:Nat->Nat->Rat
 b:Nat->Nat
 o:Nat->Nat
 wc:Rat
 wf:Nat->Rat
structure dG(P:LP)(T:aO):Prop where
 line:∀ i,i<P.m->∀ x,P.val x (T.b i)=T.c i+aN P.n (fun j=>T.f i j*P.val x (T.o j))
 worth:∀ x,P.obj x=T.wc+aN P.n (fun j=>T.wf j*P.val x (T.o j))
 surj:∀ y:Nat->Rat,∃ x,∀ j,j<P.n->P.val x (T.o j)=y j
 bl:∀ i,i<P.m->T.b i<P.n+P.m
 ol:∀ j,j<P.n->T.o j<P.n+P.m
 binj:∀ i i',i<P.m->i'<P.m->T.b i=T.b i'->i=i'
 oinj:∀ j j',j<P.n->j'<P.n->T.o j=T.o j'->j=j'
 bo:∀ i j,i<P.m->j<P.n->T.b i≠T.o j
 all:∀ v,v<P.n+P.m->(∃ i,i<P.m/\T.b i=v)∨(∃ j,j<P.n/\T.o j=v)
def aO.j8(T:aO)(r a:Nat):Rat:=-T.c r / T.f r a
def aO.jz(T:aO)(r a j:Nat):Rat:=-(if j=a then -1 else T.f r j) / T.f r a
def aO.aG(T:aO)(r a:Nat):aO where
 c i:=if i=r then T.j8 r a else T.c i+T.f i a*T.j8 r a
 f i j:=if i=r then T.jz r a j else(if j=a then 0 else T.f i j)+T.f i a*T.jz r a j
 b i:=if i=r then T.o a else T.b i
 o j:=if j=a then T.b r else T.o j
 wc:=T.wc+T.wf a*T.j8 r a
 wf j:=(if j=a then 0 else T.wf j)+T.wf a*T.jz r a j
def LP.first(P:LP):aO where
 c i:=P.B i
 f i j:=-P.A i j
 b i:=P.n+i
 o j:=j
 wc:=0
 wf j:=P.C j
theorem LP.oy(P:LP):dG P P.first where
 line i hi x:=by
  have h1:¬ P.n+i<P.n:=ae;have h2:P.n+i-P.n=i:=ae;have h3:aN P.n (fun j=>-P.A i j*P.val x j)=aN P.n (fun j=>(-1)*(P.A i j*x j)):=aM (fun j hj=>by simp only[LP.val,if_pos hj];grind);show P.val x (P.n+i)=P.B i+aN P.n (fun j=>-P.A i j*P.val x j);rw[h3,aX];simp only[LP.val,if_neg h1,h2];grind
 worth x:=by
  have h3:aN P.n (fun j=>P.C j*P.val x j)=aN P.n (fun j=>P.C j*x j):=aM (fun j hj=>by simp only[LP.val,if_pos hj]);show P.obj x=0+aN P.n (fun j=>P.C j*P.val x j);rw[h3];simp only[LP.obj];grind
 surj y:=⟨y,fun j hj=>by show P.val y j=y j;simp only[LP.val,if_pos hj]⟩
 bl i hi:=by show P.n+i<_;omega
 ol j hj:=by show j<_;omega
 binj i i' _ _ h:=by have:P.n+i=P.n+i':=h;omega
 oinj j j' _ _ h:=h
 bo i j hi hj:=by show P.n+i≠j;omega
 all v hv:=by
  by_cases h:v<P.n
  ·exact Or.inr ⟨v,h,rfl⟩
  ·exact Or.inl ⟨v-P.n,ae,by show P.n+(v-P.n)=v;omega⟩
section
variable {P:LP} {T:aO} {r a:Nat}
theorem CV(h:T.f r a≠0):T.jz r a a=1 / T.f r a:=by simp only[aO.jz,if_true];grind
theorem dG.uG (h:dG P T) (hr:r<P.m) (ha:a<P.n) (hk:T.f r a≠0) (x:Nat->Rat) :
    P.val x (T.o a)=T.j8 r a+aN P.n (fun j=>T.jz r a j*P.val x ((T.aG r a).o j)):=by
 have e:=h.line r hr x;rw[fA ha] at e ⊢;have h1:(fun j=>if j=a then(0:Rat) else T.jz r a j*P.val x ((T.aG r a).o j))=fun j=>(-1 / T.f r a)*(if j=a then 0 else T.f r j*P.val x (T.o j)):=by
  funext j
  by_cases hj:j=a
  ·simp[hj]
  ·simp only[aO.jz,aO.aG,if_neg hj];grind
 have h2:P.val x ((T.aG r a).o a)=P.val x (T.b r):=by simp[aO.aG]
 rw[h1,aX,h2,CV hk,aO.j8];generalize aN P.n (fun j=>if j=a then 0 else T.f r j*P.val x (T.o j))=S at *;rw[e];grind
theorem dG.qL (h:dG P T) (hr:r<P.m) (ha:a<P.n) (hk:T.f r a≠0) (x:Nat->Rat) (c:Rat) (g:Nat->Rat) :
    c+aN P.n (fun j=>g j*P.val x (T.o j))=(c+g a*T.j8 r a)+aN P.n (fun j=>((if j=a then 0 else g j)+g a*T.jz r a j)*P.val x ((T.aG r a).o j)):=by
 have e:=h.uG hr ha hk x;have h1:(fun j=>((if j=a then 0 else g j)+g a*T.jz r a j)*P.val x ((T.aG r a).o j))=fun j=>(if j=a then 0 else g j*P.val x (T.o j))+g a*(T.jz r a j*P.val x ((T.aG r a).o j)):=by
  funext j
  by_cases hj:j=a
  ·simp only[if_pos hj];grind
  ·simp only[aO.aG,if_neg hj];grind
 rw[h1,fW,aX,fA ha];generalize aN P.n (fun j=>T.jz r a j*P.val x ((T.aG r a).o j))=S at *;generalize aN P.n (fun j=>if j=a then 0 else g j*P.val x (T.o j))=R at *;rw[e];grind
theorem dG.aG(h:dG P T)(hr:r<P.m)(ha:a<P.n)(hk:T.f r a≠0):dG P (T.aG r a) where
 line i hi x:=by
  by_cases hir:i=r
  ·have e:=h.uG hr ha hk x;simp only[aO.aG,if_pos hir] at e ⊢;exact e
  ·have e:=h.qL hr ha hk x (T.c i) (T.f i);rw[← h.line i hi x] at e;simp only[aO.aG,if_neg hir] at e ⊢;exact e
 worth x:=by
  have e:=h.qL hr ha hk x T.wc T.wf;rw[← h.worth x] at e;exact e
 surj y:=by
  obtain⟨x,hx⟩:=h.surj (fun j=>if j=a then(y a-T.c r-aN P.n (fun j=>if j=a then 0 else T.f r j*y j)) / T.f r a else y j);refine⟨x,fun j hj=>?_⟩;by_cases hja:j=a
  ·subst hja;have e:=h.line r hr x;rw[fA hj,hx j hj] at e;have h1:aN P.n (fun i=>if i=j then 0 else T.f r i*P.val x (T.o i))=aN P.n (fun i=>if i=j then 0 else T.f r i*y i):=aM (fun i hi=>by
    by_cases hij:i=j
    ·simp[hij]
    ·have:=hx i hi;simp only[if_neg hij] at this ⊢;rw[this])
   rw[h1] at e;simp only[aO.aG,if_true] at e ⊢;rw[e];generalize aN P.n (fun i=>if i=j then 0 else T.f r i*y i)=S at *;grind
  ·have:=hx j hj;simp only[aO.aG,if_neg hja] at this ⊢;exact this
 bl i hi:=by
  simp only[aO.aG];split
  ·exact h.ol a ha
  ·exact h.bl i hi
 ol j hj:=by
  simp only[aO.aG];split
  ·exact h.bl r hr
  ·exact h.ol j hj
 binj i i' hi hi' e:=by
  simp only[aO.aG] at e;split at e <;> split at e
  ·omega
  ·exact absurd e.symm (h.bo _ _ hi' ha)
  ·exact absurd e (h.bo _ _ hi ha)
  ·exact h.binj _ _ hi hi' e
 oinj j j' hj hj' e:=by
  simp only[aO.aG] at e;split at e <;> split at e
  ·omega
  ·exact absurd e (h.bo _ _ hr hj')
  ·exact absurd e.symm (h.bo _ _ hr hj)
  ·exact h.oinj _ _ hj hj' e
 bo i j hi hj e:=by
  simp only[aO.aG] at e;split at e <;> split at e
  ·exact absurd e.symm (h.bo _ _ hr ha)
  ·rename_i h1 h2;exact h2 (h.oinj _ _ ha hj e).symm
  ·rename_i h1 h2;exact h1 (h.binj _ _ hi hr e)
  ·exact absurd e (h.bo _ _ hi hj)
 all v hv:=by
  rcases h.all v hv with⟨i,hi,e⟩|⟨j,hj,e⟩
  ·by_cases hir:i=r
   ·exact Or.inr ⟨a,ha,by simp only[aO.aG,if_true];rw[← hir];exact e⟩
   ·exact Or.inl ⟨i,hi,by simp only[aO.aG,if_neg hir];exact e⟩
  ·by_cases hja:j=a
   ·exact Or.inl ⟨r,hr,by simp only[aO.aG,if_true];rw[← hja];exact e⟩
   ·exact Or.inr ⟨j,hj,by simp only[aO.aG,if_neg hja];exact e⟩
end
end Go.Proofs.YtmahadmefplbnaaGreatDoor
namespace Go.Proofs.YtmahadmefplbnaaGreatDoor
def js(vs:Nat->Nat)(is:Nat->Bool):Nat->Int
 | 0=>-1
 | k+1=>if is k=true/\(js vs is k<0∨vs k<vs (js vs is k).toNat) then(k:Int) else js vs is k
theorem ix (vs:Nat->Nat) (is:Nat->Bool) (k:Nat) :
    (js vs is k=-1/\∀ i,i<k->is i=false)∨(∃ i,i<k/\js vs is k=(i:Int)/\is i=true/\∀ j,j<k->is j=true->vs i<=vs j):=by
 induction k with
 | zero=>exact Or.inl ⟨rfl,fun i hi=>ae⟩
 | succ k ih =>
  rcases ih with⟨h1,h2⟩|⟨i,h1,h2,h3,h4⟩
  ·by_cases hk:is k=true
   ·refine Or.inr ⟨k,ae,?_,hk,fun j hj hjs=>?_⟩
    ·rw[js,if_pos ⟨hk,Or.inl ae⟩]
    ·by_cases hjk:j=k
     ·rw[hjk];exact Nat.le_refl _
     ·have:=h2 j ae;rw[this] at hjs;cases hjs
   ·refine Or.inl ⟨?_,fun i hi=>?_⟩
    ·rw[js,if_neg (fun h=>hk h.1)];exact h1
    ·by_cases hik:i=k
     ·rw[hik];simpa using hk
     ·exact h2 i ae
  ·by_cases hk:is k=true/\vs k<vs i
   ·refine Or.inr ⟨k,ae,?_,hk.1,fun j hj hjs=>?_⟩
    ·rw[js,if_pos ⟨hk.1,Or.inr (by rw[h2];exact hk.2)⟩]
    ·by_cases hjk:j=k
     ·rw[hjk];exact Nat.le_refl _
     ·have:=h4 j ae hjs;omega
   ·refine Or.inr ⟨i,ae,?_,h3,fun j hj hjs=>?_⟩
    ·have hno:¬ (is k=true/\(js vs is k<0∨vs k<vs (js vs is k).toNat)):=fun h=>hk ⟨h.1,h.2.elim (fun h=>ae) (fun h=>by rwa[h2] at h)⟩
     rw[js,if_neg hno];exact h2
    ·by_cases hjk:j=k
     ·subst hjk;have:¬ vs j<vs i:=fun h=>hk ⟨hjs,h⟩;omega
     ·exact h4 j ae hjs
theorem ye:∀ (N:Nat) (g:Nat->Nat),(∀ k,g k<N)->∃ i j,i<j/\g i=g j
 | 0,g,h=>absurd (h 0) ae
 | N+1,g,h=>by
  rcases Classical.em (∃ i j,i<j/\g i=g j) with hp|hp
  ·exact hp
  ·have:∃ k0,∀ k,g (k0+k)<N:=by
    rcases Classical.em (∃ i,g i=N) with⟨i,hi⟩|hi
    ·refine⟨i+1,fun k=>?_⟩;have h1:=h (i+1+k);have h2:g (i+1+k)≠N:=fun e=>hp ⟨i,i+1+k,ae,by rw[hi,e]⟩
     omega
    ·refine⟨0,fun k=>?_⟩;have h1:=h (0+k);have h2:g (0+k)≠N:=fun e=>hi ⟨_,e⟩
     omega
   obtain⟨k0,hk⟩:=this;obtain⟨i,j,hij,e⟩:=ye N (fun k=>g (k0+k)) hk;exact⟨k0+i,k0+j,ae,e⟩
def enc(L:Nat)(g:Nat->Nat):Nat->Nat
 | 0=>0
 | k+1=>enc L g k*L+g k
theorem zd{L:Nat}{g:Nat->Nat}:∀ k,(∀ i,i<k->g i<L)->enc L g k<L ^ k
 | 0,_=>by simp[enc]
 | k+1,h=>by
  have h1:=zd k (fun i hi=>h i ae);have h2:=h k ae;have h3:(enc L g k+1)*L<=L ^ k*L:=Nat.mul_le_mul_right L h1;rw[enc,Nat.pow_succ];have h4:(enc L g k+1)*L=enc L g k*L+L:=by rw[Nat.add_mul,Nat.one_mul]
  omega
theorem uA{L:Nat}{g g':Nat->Nat}:∀ k,(∀ i,i<k->g i<L)->(∀ i,i<k->g' i<L)->enc L g k=enc L g' k->∀ i,i<k->g i=g' i
 | 0,_,_,_,i,hi=>ae
 | k+1,h,h',e,i,hi=>by
  have a1:=h k ae;have a2:=h' k ae;have e1:enc L g k=enc L g' k:=by
   have h1:(enc L g k*L+g k) / L=enc L g k:=by rw[Nat.mul_comm,Nat.mul_add_div ae,Nat.div_eq_of_lt a1];omega
   have h2:(enc L g' k*L+g' k) / L=enc L g' k:=by rw[Nat.mul_comm,Nat.mul_add_div ae,Nat.div_eq_of_lt a2];omega
   simp only[enc] at e;rw[← h1,← h2,e]
  have e2:g k=g' k:=by simp only[enc,e1] at e;omega
  by_cases hik:i=k
  ·rw[hik];exact e2
  ·exact uA k (fun i hi=>h i ae) (fun i hi=>h' i ae) e1 i ae
structure Seq(P:LP)(Q:Nat->aO)(r a:Nat->Nat):Prop where
 inv:∀ k,dG P (Q k)
 rl:∀ k,r k<P.m
 al:∀ k,a k<P.n
 nz:∀ k,(Q k).f (r k) (a k)≠0
 sb:∀ k,P.n<=(Q k).b (r k)
 so:∀ k,P.n<=(Q k).o (a k)
 next:∀ k,Q (k+1)=(Q k).aG (r k) (a k)
def jA(P:LP)(T:aO)(v:Nat):Prop:=∃ i,i<P.m/\T.b i=v
theorem dG.ym{P:LP}{T:aO}(h:dG P T){v:Nat}(hv:v<P.n+P.m)(hb:¬ jA P T v):∃ j,j<P.n/\T.o j=v:=by
 rcases h.all v hv with⟨i,hi⟩|hj
 ·exact absurd ⟨i,hi⟩ hb
 ·exact hj
theorem dG.pA{P:LP}{T:aO}(h:dG P T){j:Nat}(hj:j<P.n):¬ jA P T (T.o j):=fun⟨i,hi,e⟩=>h.bo i j hi hj e
theorem stays{p:Nat->Prop}{i j:Nat}(h:∀ t,i<=t->t<j->¬ p t->¬ p (t+1))(hi:¬ p i):∀ d,i+d<=j->¬ p (i+d)
 | 0,_=>hi
 | d+1,hd=>h (i+d) ae ae (stays h hi d ae)
theorem Bv{p:Nat->Prop}{i j s:Nat}(hp:p i ↔ p j)(h1:i<=s)(h2:s<j)(h3:p s)(h4:¬ p (s+1)):∃ t,i<=t/\t<j/\¬ p t/\p (t+1):=by
 rcases Classical.em (∃ t,i<=t/\t<j/\¬ p t/\p (t+1)) with h|h
 ·exact h
 ·have hn:∀ t,i<=t->t<j->¬ p t->¬ p (t+1):=fun t a b c d=>h ⟨t,a,b,c,d⟩
  have hj:¬ p j:=by
   have:=stays (fun t a b=>hn t ae b) h4 (j-(s+1)) ae;rwa[show s+1+(j-(s+1))=j by omega] at this
  have hi:¬ p i:=fun x=>hj (hp.1 x)
  have:=stays hn hi (s-i) ae;rw[show i+(s-i)=s by omega] at this;exact absurd h3 this
theorem Bi{p:Nat->Prop}{s t:Nat}(h:s<=t)(h1:¬ p s)(h2:p t):∃ k,s<=k/\k<t/\¬ p k/\p (k+1):=by
 rcases Classical.em (∃ k,s<=k/\k<t/\¬ p k/\p (k+1)) with h'|h'
 ·exact h'
 ·have:=stays (p:=p) (i:=s) (j:=t) (fun k a b c d=>h' ⟨k,a,b,c,d⟩) h1 (t-s) ae;rw[show s+(t-s)=t by omega] at this;exact absurd h2 this
theorem rf{p:Nat->Prop}:∀ N,(∃ v,v<N/\p v)->∃ v,v<N/\p v/\∀ q,q<N->p q->q<=v
 | 0,⟨v,hv,_⟩=>ae
 | N+1,⟨v,hv,hp⟩=>by
  rcases Classical.em (p N) with h|h
  ·exact⟨N,ae,h,fun q hq _=>ae⟩
  ·have hvN:v≠N:=fun e=>h (e▸hp)
   obtain⟨u,h1,h2,h3⟩:=rf N ⟨v,ae,hp⟩;refine⟨u,ae,h2,fun q hq hpq=>?_⟩;by_cases e:q=N
   ·rw[e] at hpq;exact absurd hpq h
   ·exact h3 q ae hpq
section
variable {P:LP} {Q:Nat->aO} {r a:Nat->Nat}
theorem Seq.down(S:Seq P Q r a){k v:Nat}(h1:jA P (Q k) v)(h2:¬ jA P (Q (k+1)) v):v=(Q k).b (r k):=by
 obtain⟨i,hi,e⟩:=h1;by_cases hir:i=r k
 ·rw[← hir];exact e.symm
 ·exact absurd ⟨i,hi,by rw[S.next k];simp only[aO.aG,if_neg hir];exact e⟩ h2
theorem Seq.Ew(S:Seq P Q r a){k v:Nat}(h1:¬ jA P (Q k) v)(h2:jA P (Q (k+1)) v):v=(Q k).o (a k):=by
 obtain⟨i,hi,e⟩:=h2;rw[S.next k] at e;by_cases hir:i=r k
 ·simp only[aO.aG,if_pos hir] at e;exact e.symm
 ·simp only[aO.aG,if_neg hir] at e;exact absurd ⟨i,hi,e⟩ h1
theorem Seq.leaves(S:Seq P Q r a)(k:Nat):jA P (Q k) ((Q k).b (r k))/\¬ jA P (Q (k+1)) ((Q k).b (r k)):=by
 refine⟨⟨r k,S.rl k,rfl⟩,fun⟨i,hi,e⟩=>?_⟩;rw[S.next k] at e;by_cases hir:i=r k
 ·simp only[aO.aG,if_pos hir] at e;exact(S.inv k).bo _ _ (S.rl k) (S.al k) e.symm
 ·simp only[aO.aG,if_neg hir] at e;exact hir ((S.inv k).binj _ _ hi (S.rl k) e)
theorem Seq.enters(S:Seq P Q r a)(k:Nat):¬ jA P (Q k) ((Q k).o (a k))/\jA P (Q (k+1)) ((Q k).o (a k)):=by
 refine⟨(S.inv k).pA (S.al k),⟨r k,S.rl k,?_⟩⟩;rw[S.next k];simp[aO.aG]
theorem Seq.By (S:Seq P Q r a):∃ i j v s t,i<j/\(∀ q,q<P.n->(Q i).o q=(Q j).o q)/\i<=s/\s<j/\i<=t/\t<j/\v=(Q s).b (r s)/\v=(Q t).o (a t)/\P.n<=v /\
    ∀ q k l,i<=k->k<=j->i<=l->l<=j->jA P (Q k) q->¬ jA P (Q l) q->q<=v/\P.n<=q:=by
 obtain⟨i,j,hij,e⟩:=ye ((P.n+P.m) ^ (P.n+P.m)) (fun k=>enc (P.n+P.m) (fun q=>if q<P.m then(Q k).b q else(Q k).o (q-P.m)) (P.n+P.m))
  (fun k=>zd _ (fun q hq=>by
   split
   ·exact(S.inv k).bl _ (by assumption)
   ·exact(S.inv k).ol _ ae))
 have hg:∀ k q,q<P.n+P.m->(if q<P.m then(Q k).b q else(Q k).o (q-P.m))<P.n+P.m:=fun k q hq=>by
  split
  ·exact(S.inv k).bl _ (by assumption)
  ·exact(S.inv k).ol _ ae
 have ei:=uA _ (hg i) (hg j) e;have eb:∀ q,q<P.m->(Q i).b q=(Q j).b q:=fun q hq=>by have:=ei q ae;simpa only[if_pos hq] using this
 have eo:∀ q,q<P.n->(Q i).o q=(Q j).o q:=fun q hq=>by
  have:=ei (P.m+q) ae;simpa only[if_neg (show ¬ P.m+q<P.m by omega),show P.m+q-P.m=q by omega] using this
 have same:∀ v,jA P (Q i) v ↔ jA P (Q j) v:=fun v=>⟨fun⟨q,h1,h2⟩=>⟨q,h1,by rw[← eb q h1];exact h2⟩,fun⟨q,h1,h2⟩=>⟨q,h1,by rw[eb q h1];exact h2⟩⟩
 obtain⟨v,hv,⟨s,hs1,hs2,hs3⟩,hmax⟩:=rf (p:=fun v=>∃ s,i<=s/\s<j/\v=(Q s).b (r s)) (P.n+P.m) ⟨_,(S.inv i).bl _ (S.rl i),i,Nat.le_refl _,hij,rfl⟩;have hret:∃ t,i<=t/\t<j/\v=(Q t).o (a t):=by
  have hl:=S.leaves s;rw[← hs3] at hl;obtain⟨t,h1,h2,h3,h4⟩:=Bv (p:=fun k=>jA P (Q k) v) (same v) hs1 hs2 hl.1 hl.2;exact⟨t,h1,h2,S.Ew h3 h4⟩
 obtain⟨t,ht1,ht2,ht3⟩:=hret;refine⟨i,j,v,s,t,hij,eo,hs1,hs2,ht1,ht2,hs3,ht3,by rw[hs3];exact S.sb s,?_⟩;intro q k l hk1 hk2 hl1 hl2 hb hnb;have fick:∃ s,i<=s/\s<j/\q=(Q s).b (r s):=by
  rcases Nat.lt_or_ge k l with hkl|hkl
  ·obtain⟨u,u1,u2,u3,u4⟩:=Bi (p:=fun k=>¬ jA P (Q k) q) (s:=k) (t:=l) ae (fun h=>h hb) hnb;exact⟨u,ae,ae,S.down (Classical.not_not.1 u3) u4⟩
  ·obtain⟨u,u1,u2,u3,u4⟩:=Bi (p:=fun k=>jA P (Q k) q) (s:=l) (t:=k) ae hnb hb;have hn:¬ ¬ jA P (Q (u+1)) q:=fun h=>h u4
   obtain⟨z,z1,z2,z3,z4⟩:=Bv (p:=fun k=>¬ jA P (Q k) q) (i:=i) (j:=j) (s:=u) (by rw[same q]) ae ae u3 hn;exact⟨z,z1,z2,S.down (Classical.not_not.1 z3) z4⟩
 obtain⟨z,z1,z2,z3⟩:=fick;refine⟨hmax q ?_ ⟨z,z1,z2,z3⟩,by rw[z3];exact S.sb z⟩;rw[z3];exact(S.inv z).bl _ (S.rl z)
theorem ti (S:Seq P Q r a) (hc:∀ k,(Q k).c (r k)<0) (hf:∀ k,0<(Q k).f (r k) (a k)) (lr:∀ k i,i<P.m->P.n<=(Q k).b i->(Q k).c i<0->(Q k).b (r k)<=(Q k).b i)
    (la:∀ k j,j<P.n->P.n<=(Q k).o j->0<(Q k).f (r k) j->(Q k).o (a k)<=(Q k).o j):False:=by
 obtain⟨i,j,v,s,t,hij,eo,hs1,hs2,ht1,ht2,hs3,ht3,hv,hmove⟩:=S.By;obtain⟨x,hx⟩:=(S.inv s).surj (fun _=>0);have zero:∀ q,q<P.n+P.m->¬ jA P (Q s) q->P.val x q=0:=fun q hq hb=>by
  obtain⟨w,h1,h2⟩:=(S.inv s).ym hq hb;rw[← h2];exact hx w h1
 have const:∀ w,w<P.m->P.val x ((Q s).b w)=(Q s).c w:=fun w hw=>by
  rw[(S.inv s).line w hw x,aS (fun q hq=>by rw[hx q hq];grind)];grind
 have pos:∀ q,jA P (Q s) q->P.n<=q->q<v->0<=P.val x q:=fun q ⟨w,h1,h2⟩ hn hq=>by
  rw[← h2,const w h1];rcases Classical.em ((Q s).c w<0) with h|h
  ·have:=lr s w h1 ae h;omega
  ·grind
 have hl:=S.leaves t;have hu:=hmove _ t (t+1) ht1 ae ae ae hl.1 hl.2;have hne:(Q t).b (r t)≠v:=by rw[ht3];exact(S.inv t).bo _ _ (S.rl t) (S.al t)
 have hpos:0<=P.val x ((Q t).b (r t)):=by
  rcases Classical.em (jA P (Q s) ((Q t).b (r t))) with h|h
  ·exact pos _ h hu.2 ae
  ·rw[zero _ ((S.inv t).bl _ (S.rl t)) h];exact Rat.le_refl
 have hsum:aN P.n (fun q=>(Q t).f (r t) q*P.val x ((Q t).o q))<=0:=by
  refine r5 (fun q hq=>?_);rcases Classical.em (jA P (Q s) ((Q t).o q)) with h|h
  ·have hm:=hmove _ s t hs1 ae ht1 ae h ((S.inv t).pA hq);by_cases hqv:(Q t).o q=v
   ·have hqa:q=a t:=(S.inv t).oinj _ _ hq (S.al t) (by rw[hqv,ht3]);have h1:=hf t;have h2:=hc s;rw[hqv,hs3,const _ (S.rl s),hqa];have:=Rat.mul_pos h1 (show 0 < -(Q s).c (r s) by grind);grind
   ·have h1:¬ 0<(Q t).f (r t) q:=fun h'=>by have:=la t q hq hm.2 h';omega
    have h2:=pos _ h hm.2 ae;have h3:0<=-(Q t).f (r t) q:=by grind
    have:=Rat.mul_nonneg h3 h2;grind
  ·rw[zero _ ((S.inv t).ol _ hq) h];grind
 have e:=(S.inv t).line (r t) (S.rl t) x;have:=hc t;rw[e] at hpos;grind
theorem wv (S:Seq P Q r a) (hc:∀ k i,i<P.m->P.n<=(Q k).b i->0<=(Q k).c i) (hw:∀ k,(Q k).wf (a k)<0) (hf:∀ k,(Q k).f (r k) (a k)<0)
    (la:∀ k j,j<P.n->P.n<=(Q k).o j->(Q k).wf j<0->(Q k).o (a k)<=(Q k).o j)
    (lr:∀ k i,i<P.m->P.n<=(Q k).b i->(Q k).f i (a k)<0->(Q k).c (r k) / (-(Q k).f (r k) (a k))=(Q k).c i / (-(Q k).f i (a k))->(Q k).b (r k)<=(Q k).b i):False:=by
 obtain⟨i,j,v,s,t,hij,eo,hs1,hs2,ht1,ht2,hs3,ht3,hv,hmove⟩:=S.By
 -- the worth does not grow
 have hby:∀ k,0<=(Q k).j8 (r k) (a k):=fun k=>by
  have h1:=hc k (r k) (S.rl k) (S.sb k);have h2:=hf k;have h3:0<=(-(Q k).f (r k) (a k))⁻¹:=Rat.le_of_lt (Rat.inv_pos.2 (by grind));have h4:=Rat.mul_nonneg h1 h3;have h5:(Q k).j8 (r k) (a k)=(Q k).c (r k)*(-(Q k).f (r k) (a k))⁻¹:=by simp only[aO.j8];grind
  rw[h5];exact h4
 have mono1:∀ k,(Q (k+1)).wc<=(Q k).wc:=fun k=>by
  have h1:(Q (k+1)).wc=(Q k).wc+(Q k).wf (a k)*(Q k).j8 (r k) (a k):=by rw[S.next k];rfl
  have h2:=Rat.mul_nonneg (show 0<=-(Q k).wf (a k) by have:=hw k;grind) (hby k);grind
 have mono:∀ d k,(Q (k+d)).wc<=(Q k).wc:=fun d=>by
  induction d with
  | zero=>intro k;exact Rat.le_refl
  | succ d ih=>intro k;exact Rat.le_trans (mono1 (k+d)) (ih k)
 have hsame:(Q i).wc=(Q j).wc:=by
  obtain⟨x,hx⟩:=(S.inv i).surj (fun _=>0);have e1:=(S.inv i).worth x;have e2:=(S.inv j).worth x;rw[aS (fun q hq=>by rw[hx q hq];grind)] at e1;rw[aS (fun q hq=>by rw[← eo q hq,hx q hq];grind)] at e2;grind
 have hall:∀ k,i<=k->k<=j->(Q k).wc=(Q i).wc:=fun k h1 h2=>by
  have e1:=mono (k-i) i;have e2:=mono (j-k) k;rw[show i+(k-i)=k by omega] at e1;rw[show k+(j-k)=j by omega] at e2;grind
 have hzero:∀ k,i<=k->k<j->(Q k).j8 (r k) (a k)=0:=fun k h1 h2=>by
  have e1:=hall k h1 ae;have e2:=hall (k+1) ae ae;have e3:(Q (k+1)).wc=(Q k).wc+(Q k).wf (a k)*(Q k).j8 (r k) (a k):=by rw[S.next k];rfl
  have e4:(Q k).wf (a k)*(Q k).j8 (r k) (a k)=0:=by grind
  have e5:=hw k;rcases Rat.mul_eq_zero.1 e4 with h|h
  ·grind
  ·exact h
 have hcz:∀ k,i<=k->k<j->(Q k).c (r k)=0:=fun k h1 h2=>by
  have e1:=hzero k h1 h2;have e2:=S.nz k;simp only[aO.j8] at e1;grind
 -- one point serves all tableaus of the round
 obtain⟨x,hx⟩:=(S.inv i).surj (fun _=>0);have hpt:∀ d,i+d<=j->∀ q,q<P.n->P.val x ((Q (i+d)).o q)=0:=fun d=>by
  induction d with
  | zero=>intro _ q hq;exact hx q hq
  | succ d ih =>
   intro hd q hq;have h0:=ih ae;rw[show i+(d+1)=i+d+1 by omega,S.next (i+d)];simp only[aO.aG];split
   ·rw[(S.inv (i+d)).line _ (S.rl _) x,aS (fun q hq=>by rw[h0 q hq];grind),hcz (i+d) ae ae];grind
   ·exact h0 q hq
 have hxs:∀ q,q<P.n->P.val x ((Q s).o q)=0:=by have:=hpt (s-i) ae;rwa[show i+(s-i)=s by omega] at this
 have hxt:∀ q,q<P.n->P.val x ((Q t).o q)=0:=by have:=hpt (t-i) ae;rwa[show i+(t-i)=t by omega] at this
 have const:∀ w,w<P.m->P.val x ((Q s).b w)=(Q s).c w:=fun w hw=>by
  rw[(S.inv s).line w hw x,aS (fun q hq=>by rw[hxs q hq];grind)];grind
 -- along the entering variable of the tableau at which v leaves the worth mX
 obtain⟨y,hy⟩:=(S.inv s).surj (fun q=>if q=a s then 1 else 0);have cy:∀ w,w<P.m->P.val y ((Q s).b w)=(Q s).c w+(Q s).f w (a s):=fun w hw=>by
  rw[(S.inv s).line w hw y,dx (S.al s) _ (fun q hq hne=>by rw[hy q hq,if_neg hne];grind),hy _ (S.al s),if_pos rfl];grind
 have w1:P.obj y=(Q s).wc+(Q s).wf (a s):=by
  rw[(S.inv s).worth y,dx (S.al s) _ (fun q hq hne=>by rw[hy q hq,if_neg hne];grind),hy _ (S.al s),if_pos rfl];grind
 have w2:=(S.inv t).worth y;have hen:=S.enters s;have hsum:0<=aN P.n (fun q=>(Q t).wf q*P.val y ((Q t).o q)):=by
  refine jh (fun q hq=>?_);rcases Classical.em (jA P (Q s) ((Q t).o q)) with⟨w,hw1,hw2⟩|h
  ·have hm:=hmove _ s t hs1 ae ht1 ae ⟨w,hw1,hw2⟩ ((S.inv t).pA hq);have hc0:(Q s).c w=0:=by rw[← const w hw1,hw2];exact hxt q hq
   rw[← hw2,cy w hw1,hc0];by_cases hqv:(Q t).o q=v
   ·have hqa:q=a t:=(S.inv t).oinj _ _ hq (S.al t) (by rw[hqv,ht3]);have hwr:w=r s:=(S.inv s).binj _ _ hw1 (S.rl s) (by rw[hw2,hqv,hs3]);have h1:=hw t;have h2:=hf s;rw[hqa,hwr];have:=Rat.mul_pos (show 0 < -(Q t).wf (a t) by grind) (show 0 < -(Q s).f (r s) (a s) by grind);grind
   ·have h1:¬ (Q t).wf q<0:=fun h'=>by have:=la t q hq hm.2 h';omega
    have h2:¬ (Q s).f w (a s)<0:=fun h'=>by
     have:=lr s w hw1 ae h' (by rw[hc0,hcz s hs1 hs2];grind);omega
    have:=Rat.mul_nonneg (show 0<=(Q t).wf q by grind) (show 0<=(Q s).f w (a s) by grind);grind
  ·obtain⟨w,hw1,hw2⟩:=(S.inv s).ym ((S.inv t).ol q hq) h;rw[← hw2,hy w hw1];by_cases hwa:w=a s
   ·have hm:=hmove _ (s+1) s ae ae hs1 ae hen.2 hen.1;have hne:(Q s).o (a s)≠v:=by rw[hs3];exact fun h=>(S.inv s).bo _ _ (S.rl s) (S.al s) h.symm
    rw[hwa] at hw2;have h1:¬ (Q t).wf q<0:=fun h'=>by have:=la t q hq ae h';omega
    rw[if_pos hwa];grind
   ·rw[if_neg hwa];grind
 have e1:=hall s hs1 ae;have e2:=hall t ht1 ae;have e3:=hw s;grind
end
end Go.Proofs.YtmahadmefplbnaaGreatDoor
namespace Go.Proofs.YtmahadmefplbnaaGreatDoor
def LP.jj(P:LP)(T:aO):Int:=js T.b (fun i=>decide (P.n<=T.b i) && decide (T.c i<0)) P.m
def LP.wK(P:LP)(T:aO)(r:Nat):Int:=js T.o (fun j=>decide (P.n<=T.o j) && decide (0<T.f r j)) P.n
def LP.fJ(P:LP)(T:aO):aO:=if P.jj T<0∨P.wK T (P.jj T).toNat<0 then T else T.aG (P.jj T).toNat (P.wK T (P.jj T).toNat).toNat
def LP.iC(P:LP)(T:aO):Prop:=P.jj T<0∨P.wK T (P.jj T).toNat<0
def LP.Dh(P:LP)(T:aO):Int:=js T.o (fun j=>!decide (P.n<=T.o j) && decide (T.wf j≠0)) P.n
def LP.tj(P:LP)(T:aO):Int:=js T.o (fun j=>decide (P.n<=T.o j) && decide (T.wf j<0)) P.n
def aO.ratio(T:aO)(a i:Nat):Rat:=T.c i / (-(T.f i a))
def LP.lv(P:LP)(T:aO)(a:Nat):Nat->Int
 | 0=>-1
 | k+1=>if ¬ P.n<=T.b k∨0<=T.f k a then P.lv T a k
  else if 0<=P.lv T a k/\(T.ratio a (P.lv T a k).toNat<T.ratio a k∨T.ratio a (P.lv T a k).toNat=T.ratio a k/\T.b (P.lv T a k).toNat<T.b k) then P.lv T a k else(k:Int)
def LP.fI(P:LP)(T:aO):aO:=if P.tj T<0∨P.lv T (P.tj T).toNat P.m<0 then T else T.aG (P.lv T (P.tj T).toNat P.m).toNat (P.tj T).toNat
def LP.iB(P:LP)(T:aO):Prop:=P.tj T<0∨P.lv T (P.tj T).toNat P.m<0
def mU(s:aO->aO):Nat->aO->aO
 | 0,T=>T
 | k+1,T=>s (mU s k T)
def oO(P:LP)(T:aO):Prop:=∀ j,j<P.n->T.o j<P.n->∀ i,i<P.m->P.n<=T.b i->T.f i j=0
def WZ(P:LP)(T:aO):Prop:=∀ j,j<P.n->T.o j<P.n->T.wf j=0
def Pos(P:LP)(T:aO):Prop:=∀ i,i<P.m->P.n<=T.b i->0<=T.c i
theorem lj (P:LP) (T:aO) (a:Nat) (k:Nat) :
    (P.lv T a k=-1/\∀ i,i<k->P.n<=T.b i->0<=T.f i a) ∨
    (∃ i,i<k/\P.lv T a k=(i:Int)/\P.n<=T.b i/\T.f i a<0/\∀ j,j<k->P.n<=T.b j->T.f j a<0->T.ratio a i<T.ratio a j∨(T.ratio a i=T.ratio a j/\T.b i<=T.b j)):=by
 induction k with
 | zero=>exact Or.inl ⟨rfl,fun i hi=>ae⟩
 | succ k ih =>
  by_cases hs:¬ P.n<=T.b k∨0<=T.f k a
  ·rw[LP.lv,if_pos hs];rcases ih with⟨h1,h2⟩|⟨i,h1,h2,h3,h4,h5⟩
   ·refine Or.inl ⟨h1,fun i hi hn=>?_⟩;by_cases hik:i=k
    ·subst hik;rcases hs with hs|hs
     ·exact absurd hn hs
     ·exact hs
    ·exact h2 i ae hn
   ·refine Or.inr ⟨i,ae,h2,h3,h4,fun j hj hn hf=>?_⟩;by_cases hjk:j=k
    ·subst hjk;rcases hs with hs|hs
     ·exact absurd hn hs
     ·exact absurd hf (by grind)
    ·exact h5 j ae hn hf
  ·rw[LP.lv,if_neg hs];have hn:P.n<=T.b k:=Classical.not_not.1 (fun h=>hs (Or.inl h));have hf:T.f k a<0:=by have:¬ 0<=T.f k a:=fun h=>hs (Or.inr h);grind
   rcases ih with⟨h1,h2⟩|⟨i,h1,h2,h3,h4,h5⟩
   ·rw[h1,if_neg (by simp)];refine Or.inr ⟨k,ae,rfl,hn,hf,fun j hj hn' hf'=>?_⟩;by_cases hjk:j=k
    ·subst hjk;exact Or.inr ⟨rfl,Nat.le_refl _⟩
    ·have:=h2 j ae hn';exact absurd hf' (by grind)
   ·rw[h2];have e:((i:Int)).toNat=i:=Int.toNat_natCast i;rw[e];by_cases hc:T.ratio a i<T.ratio a k∨T.ratio a i=T.ratio a k/\T.b i<T.b k
    ·rw[if_pos ⟨ae,hc⟩];refine Or.inr ⟨i,ae,rfl,h3,h4,fun j hj hn' hf'=>?_⟩;by_cases hjk:j=k
     ·subst hjk;rcases hc with hc|hc
      ·exact Or.inl hc
      ·exact Or.inr ⟨hc.1,ae⟩
     ·exact h5 j ae hn' hf'
    ·rw[if_neg (fun h=>hc h.2)];refine Or.inr ⟨k,ae,rfl,hn,hf,fun j hj hn' hf'=>?_⟩;have c1:¬ T.ratio a i<T.ratio a k:=fun h=>hc (Or.inl h)
     have c2:¬ (T.ratio a i=T.ratio a k/\T.b i<T.b k):=fun h=>hc (Or.inr h)
     by_cases hjk:j=k
     ·subst hjk;exact Or.inr ⟨rfl,Nat.le_refl _⟩
     ·rcases h5 j ae hn' hf' with h|h
      ·exact Or.inl (by grind)
      ·rcases Classical.em (T.ratio a i=T.ratio a k) with he|he
       ·have:¬ T.b i<T.b k:=fun h=>c2 ⟨he,h⟩
        exact Or.inr ⟨by rw[← he];exact h.1,ae⟩
       ·exact Or.inl (by grind)
section
variable {P:LP} {T:aO}
theorem ki(P:LP)(T:aO):(P.jj T=-1/\Pos P T)∨∃ r,r<P.m/\P.jj T=(r:Int)/\P.n<=T.b r/\T.c r<0/\∀ i,i<P.m->P.n<=T.b i->T.c i<0->T.b r<=T.b i:=by
 rcases ix T.b (fun i=>decide (P.n<=T.b i) && decide (T.c i<0)) P.m with⟨h1,h2⟩|⟨i,h1,h2,h3,h4⟩
 ·refine Or.inl ⟨h1,fun i hi hn=>?_⟩;have:=h2 i hi;simp only[Bool.and_eq_false_iff,decide_eq_false_iff_not] at this;rcases this with h|h
  ·exact absurd hn h
  ·grind
 ·simp only[Bool.and_eq_true,decide_eq_true_eq] at h3 h4;exact Or.inr ⟨i,h1,h2,h3.1,h3.2,fun j hj a b=>h4 j hj ⟨a,b⟩⟩
theorem nx(P:LP)(T:aO)(r:Nat):(P.wK T r=-1/\∀ j,j<P.n->P.n<=T.o j->T.f r j<=0)∨∃ a,a<P.n/\P.wK T r=(a:Int)/\P.n<=T.o a/\0<T.f r a/\∀ j,j<P.n->P.n<=T.o j->0<T.f r j->T.o a<=T.o j:=by
 rcases ix T.o (fun j=>decide (P.n<=T.o j) && decide (0<T.f r j)) P.n with⟨h1,h2⟩|⟨i,h1,h2,h3,h4⟩
 ·refine Or.inl ⟨h1,fun i hi hn=>?_⟩;have:=h2 i hi;simp only[Bool.and_eq_false_iff,decide_eq_false_iff_not] at this;rcases this with h|h
  ·exact absurd hn h
  ·grind
 ·simp only[Bool.and_eq_true,decide_eq_true_eq] at h3 h4;exact Or.inr ⟨i,h1,h2,h3.1,h3.2,fun j hj a b=>h4 j hj ⟨a,b⟩⟩
theorem nw(P:LP)(T:aO):(P.tj T=-1/\∀ j,j<P.n->P.n<=T.o j->0<=T.wf j)∨∃ a,a<P.n/\P.tj T=(a:Int)/\P.n<=T.o a/\T.wf a<0/\∀ j,j<P.n->P.n<=T.o j->T.wf j<0->T.o a<=T.o j:=by
 rcases ix T.o (fun j=>decide (P.n<=T.o j) && decide (T.wf j<0)) P.n with⟨h1,h2⟩|⟨i,h1,h2,h3,h4⟩
 ·refine Or.inl ⟨h1,fun i hi hn=>?_⟩;have:=h2 i hi;simp only[Bool.and_eq_false_iff,decide_eq_false_iff_not] at this;rcases this with h|h
  ·exact absurd hn h
  ·grind
 ·simp only[Bool.and_eq_true,decide_eq_true_eq] at h3 h4;exact Or.inr ⟨i,h1,h2,h3.1,h3.2,fun j hj a b=>h4 j hj ⟨a,b⟩⟩
theorem rM(P:LP)(T:aO):(P.Dh T=-1/\WZ P T)∨∃ a,a<P.n/\P.Dh T=(a:Int)/\T.o a<P.n/\T.wf a≠0:=by
 rcases ix T.o (fun j=>!decide (P.n<=T.o j) && decide (T.wf j≠0)) P.n with⟨h1,h2⟩|⟨i,h1,h2,h3,h4⟩
 ·refine Or.inl ⟨h1,fun i hi hn=>?_⟩;have:=h2 i hi;simp only[Bool.and_eq_false_iff,decide_eq_false_iff_not,Bool.not_eq_false',decide_eq_true_eq] at this;rcases this with h|h
  ·omega
  ·exact Classical.not_not.1 h
 ·simp only[Bool.and_eq_true,decide_eq_true_eq,Bool.not_eq_true',decide_eq_false_iff_not] at h3;exact Or.inr ⟨i,h1,h2,ae,h3.2⟩
theorem oO.aG(h:oO P T)(hI:dG P T){r a:Nat}(hr:r<P.m)(ha:a<P.n)(hs:P.n<=T.b r)(hk:T.f r a≠0):oO P (T.aG r a):=by
 intro j hj hjo i hi hb;by_cases hja:j=a
 ·simp only[aO.aG,if_pos hja] at hjo;omega
 ·simp only[aO.aG,if_neg hja] at hjo;have hz:T.f r j=0:=h j hj hjo r hr hs;by_cases hir:i=r
  ·simp only[aO.aG,if_pos hir,aO.jz,if_neg hja,hz];grind
  ·simp only[aO.aG,if_neg hir] at hb;have hz2:T.f i j=0:=h j hj hjo i hi hb;simp only[aO.aG,if_neg hir,if_neg hja,aO.jz,hz,hz2];grind
theorem WZ.aG(h:WZ P T)(hz:oO P T){r a:Nat}(hr:r<P.m)(hs:P.n<=T.b r):WZ P (T.aG r a):=by
 intro j hj hjo;by_cases hja:j=a
 ·simp only[aO.aG,if_pos hja] at hjo;omega
 ·simp only[aO.aG,if_neg hja] at hjo;have h1:T.f r j=0:=hz j hj hjo r hr hs;have h2:T.wf j=0:=h j hj hjo;simp only[aO.aG,if_neg hja,aO.jz,h1,h2];grind
theorem qo (hr:¬ P.iC T):∃ r a,r<P.m/\a<P.n/\P.jj T=(r:Int)/\P.wK T r=(a:Int)/\P.fJ T=T.aG r a/\P.n<=T.b r/\P.n<=T.o a/\T.c r<0/\0<T.f r a /\
    (∀ i,i<P.m->P.n<=T.b i->T.c i<0->T.b r<=T.b i)/\(∀ j,j<P.n->P.n<=T.o j->0<T.f r j->T.o a<=T.o j):=by
 rcases ki P T with⟨h1,h2⟩|⟨r,h1,h2,h3,h4,h5⟩
 ·exact absurd (Or.inl ae) hr
 ·rcases nx P T r with⟨g1,g2⟩|⟨a,g1,g2,g3,g4,g5⟩
  ·exact absurd (Or.inr (by rw[h2,Int.toNat_natCast];omega)) hr
  ·refine⟨r,a,h1,g1,h2,g2,?_,h3,g3,h4,g4,h5,g5⟩;unfold LP.fJ;unfold LP.iC at hr;rw[if_neg hr,h2,Int.toNat_natCast,g2,Int.toNat_natCast]
theorem qm (hr:¬ P.iB T):∃ r a,r<P.m/\a<P.n/\P.lv T a P.m=(r:Int)/\P.tj T=(a:Int)/\P.fI T=T.aG r a/\P.n<=T.b r/\P.n<=T.o a/\T.f r a<0/\T.wf a<0 /\
    (∀ j,j<P.n->P.n<=T.o j->T.wf j<0->T.o a<=T.o j)/\(∀ j,j<P.m->P.n<=T.b j->T.f j a<0->T.ratio a r<T.ratio a j∨(T.ratio a r=T.ratio a j/\T.b r<=T.b j)):=by
 rcases nw P T with⟨h1,h2⟩|⟨a,h1,h2,h3,h4,h5⟩
 ·exact absurd (Or.inl ae) hr
 ·rcases lj P T a P.m with⟨g1,g2⟩|⟨r,g1,g2,g3,g4,g5⟩
  ·exact absurd (Or.inr (by rw[h2,Int.toNat_natCast];omega)) hr
  ·refine⟨r,a,g1,h1,g2,h2,?_,g3,h3,g4,h4,h5,g5⟩;unfold LP.fI;unfold LP.iB at hr;rw[if_neg hr,h2,Int.toNat_natCast,g2,Int.toNat_natCast]
theorem lW(hr:P.iC T):P.fJ T=T:=if_pos hr
theorem lV(hr:P.iB T):P.fI T=T:=if_pos hr
structure Good(P:LP)(T:aO):Prop where
 inv:dG P T
 fz:oO P T
theorem Good.fJ(h:Good P T):Good P (P.fJ T):=by
 rcases Classical.em (P.iC T) with hh|hh
 ·rw[lW hh];exact h
 ·obtain⟨r,a,h1,h2,_,_,h3,h4,h5,h6,h7,_⟩:=qo hh;rw[h3];have hk:T.f r a≠0:=by grind
  exact⟨h.inv.aG h1 h2 hk,h.fz.aG h.inv h1 h2 h4 hk⟩
theorem Good.EA(h:Good P T):∀ k,Good P (mU P.fJ k T)
 | 0=>h
 | k+1=>(Good.EA h k).fJ
structure eY(P:LP)(T:aO):Prop where
 inv:dG P T
 fz:oO P T
 wz:WZ P T
 pos:Pos P T
theorem eY.fI(h:eY P T):eY P (P.fI T):=by
 rcases Classical.em (P.iB T) with hh|hh
 ·rw[lV hh];exact h
 ·obtain⟨r,a,h1,h2,_,_,h3,h4,h5,h6,h7,h8,h9⟩:=qm hh;rw[h3];have hk:T.f r a≠0:=by grind
  refine⟨h.inv.aG h1 h2 hk,h.fz.aG h.inv h1 h2 h4 hk,h.wz.aG h.fz h1 h4,?_⟩;have hcr:=h.pos r h1 h4;have hinv:0<(-T.f r a)⁻¹:=Rat.inv_pos.2 (by grind);have hbe:T.j8 r a=T.c r*(-T.f r a)⁻¹:=by simp only[aO.j8];grind
  have hb0:0<=T.j8 r a:=by rw[hbe];exact Rat.mul_nonneg hcr (Rat.le_of_lt hinv)
  intro i hi hb;by_cases hir:i=r
  ·simp only[aO.aG,if_pos hir];exact hb0
  ·simp only[aO.aG,if_neg hir] at hb ⊢;have hci:=h.pos i hi hb;rcases Classical.em (T.f i a<0) with hf|hf
   ·have hrat:T.ratio a r<=T.ratio a i:=by
     rcases h9 i hi hb hf with h'|h'
     ·exact Rat.le_of_lt h'
     ·rw[h'.1];exact Rat.le_refl
    have e1:T.ratio a r=T.j8 r a:=by rw[hbe];simp only[aO.ratio];grind
    have e2:=Rat.mul_le_mul_of_nonneg_left hrat (show 0<=-T.f i a by grind);have e3:-T.f i a*T.ratio a i=T.c i:=by simp only[aO.ratio];grind
    rw[e1,e3] at e2;grind
   ·have:=Rat.mul_nonneg (show 0<=T.f i a by grind) hb0;grind
theorem eY.Eh(h:eY P T):∀ k,eY P (mU P.fI k T)
 | 0=>h
 | k+1=>(eY.Eh h k).fI
theorem wh(h:Good P T):∃ N,P.iC (mU P.fJ N T):=by
 rcases Classical.em (∃ N,P.iC (mU P.fJ N T)) with hh|hh
 ·exact hh
 ·exfalso;have hn:∀ k,¬ P.iC (mU P.fJ k T):=fun k h=>hh ⟨k,h⟩
  obtain⟨r,hr⟩:=Classical.axiomOfChoice (fun k=>qo (hn k));obtain⟨a,ha⟩:=Classical.axiomOfChoice hr;exact ti (Q:=fun k=>mU P.fJ k T) (r:=r) (a:=a)
   ⟨fun k=>(h.EA k).inv,fun k=>(ha k).1,fun k=>(ha k).2.1,fun k=>by have:=(ha k).2.2.2.2.2.2.2.2.1;grind,fun k=>(ha k).2.2.2.2.2.1,fun k=>(ha k).2.2.2.2.2.2.1,fun k=>(ha k).2.2.2.2.1⟩
   (fun k=>(ha k).2.2.2.2.2.2.2.1) (fun k=>(ha k).2.2.2.2.2.2.2.2.1) (fun k=>(ha k).2.2.2.2.2.2.2.2.2.1) (fun k=>(ha k).2.2.2.2.2.2.2.2.2.2)
theorem yx(h:eY P T):∃ N,P.iB (mU P.fI N T):=by
 rcases Classical.em (∃ N,P.iB (mU P.fI N T)) with hh|hh
 ·exact hh
 ·exfalso;have hn:∀ k,¬ P.iB (mU P.fI k T):=fun k h=>hh ⟨k,h⟩
  obtain⟨r,hr⟩:=Classical.axiomOfChoice (fun k=>qm (hn k));obtain⟨a,ha⟩:=Classical.axiomOfChoice hr;exact wv (Q:=fun k=>mU P.fI k T) (r:=r) (a:=a)
   ⟨fun k=>(h.Eh k).inv,fun k=>(ha k).1,fun k=>(ha k).2.1,fun k=>by have:=(ha k).2.2.2.2.2.2.2.1;grind,fun k=>(ha k).2.2.2.2.2.1,fun k=>(ha k).2.2.2.2.2.2.1,fun k=>(ha k).2.2.2.2.1⟩
   (fun k=>(h.Eh k).pos) (fun k=>(ha k).2.2.2.2.2.2.2.2.1) (fun k=>(ha k).2.2.2.2.2.2.2.1) (fun k=>(ha k).2.2.2.2.2.2.2.2.2.1)
   (fun k i hi hb hf e=>by
    rcases (ha k).2.2.2.2.2.2.2.2.2.2 i hi hb hf with h'|h'
    ·simp only[aO.ratio] at h';grind
    ·exact h'.2)
end
end Go.Proofs.YtmahadmefplbnaaGreatDoor
namespace Go.Proofs.YtmahadmefplbnaaGreatDoor
def LP.rs(P:LP)(T:aO)(k:Nat):Nat->Int
 | 0=>-1
 | i+1=>if 0<=P.rs T k i then P.rs T k i else if T.f i k≠0/\P.n<=T.b i then(i:Int) else -1
theorem tJ(P:LP)(T:aO)(k:Nat)(i:Nat):(P.rs T k i=-1/\∀ w,w<i->P.n<=T.b w->T.f w k=0)∨∃ r,r<i/\P.rs T k i=(r:Int)/\T.f r k≠0/\P.n<=T.b r:=by
 induction i with
 | zero=>exact Or.inl ⟨rfl,fun w hw=>ae⟩
 | succ i ih =>
  rcases ih with⟨h1,h2⟩|⟨r,h1,h2,h3,h4⟩
  ·by_cases hc:T.f i k≠0/\P.n<=T.b i
   ·exact Or.inr ⟨i,ae,by rw[LP.rs,if_neg ae,if_pos hc],hc.1,hc.2⟩
   ·refine Or.inl ⟨by rw[LP.rs,if_neg ae,if_neg hc],fun w hw hn=>?_⟩;by_cases hwi:w=i
    ·subst hwi;exact Classical.not_not.1 (fun h=>hc ⟨h,hn⟩)
    ·exact h2 w ae hn
  ·exact Or.inr ⟨r,ae,by rw[LP.rs,if_pos ae];exact h2,h3,h4⟩
def LP.qG(P:LP)(T:aO)(k:Nat):aO:=if P.rs T k P.m<0 then T else T.aG (P.rs T k P.m).toNat k
def LP.rel(P:LP)(T:aO):Nat->aO
 | 0=>T
 | k+1=>P.qG (P.rel T k) k
structure ny(P:LP)(T:aO)(k:Nat):Prop where
 inv:dG P T
 rest:∀ j,j<P.n->k<=j->T.o j=j
 fz:∀ j,j<k->j<P.n->T.o j<P.n->∀ i,i<P.m->P.n<=T.b i->T.f i j=0
theorem ny.step{P:LP}{T:aO}{k:Nat}(h:ny P T k)(hk:k<P.n):ny P (P.qG T k) (k+1):=by
 rcases tJ P T k P.m with⟨h1,h2⟩|⟨r,h1,h2,h3,h4⟩
 ·rw[LP.qG,if_pos ae];refine⟨h.inv,fun j hj hkj=>h.rest j hj ae,fun j hj hjn hjo i hi hb=>?_⟩;by_cases hjk:j=k
  ·subst hjk;exact h2 i hi hb
  ·exact h.fz j ae hjn hjo i hi hb
 ·rw[LP.qG,if_neg ae,h2,Int.toNat_natCast];refine⟨h.inv.aG h1 hk h3,fun j hj hkj=>?_,fun j hj hjn hjo i hi hb=>?_⟩
  ·simp only[aO.aG,if_neg (show ¬ j=k by omega)];exact h.rest j hj ae
  ·have hjk:¬ j=k:=fun e=>by simp only[aO.aG,if_pos e] at hjo;omega
   simp only[aO.aG,if_neg hjk] at hjo;have hz:T.f r j=0:=h.fz j ae hjn hjo r h1 h4;by_cases hir:i=r
   ·simp only[aO.aG,if_pos hir] at hb;rw[h.rest k hk (Nat.le_refl _)] at hb;omega
   ·simp only[aO.aG,if_neg hir] at hb;have hz2:T.f i j=0:=h.fz j ae hjn hjo i hi hb;simp only[aO.aG,if_neg hir,if_neg hjk,aO.jz,hz,hz2];grind
theorem ny.all{P:LP}{T:aO}(h:ny P T 0):∀ k,k<=P.n->ny P (P.rel T k) k
 | 0,_=>h
 | k+1,hk=>(ny.all h k ae).step ae
theorem xQ(P:LP):Good P (P.rel P.first P.n):=by
 have h:=ny.all (P:=P) (T:=P.first) ⟨P.oy,fun j hj _=>rfl,fun j hj=>ae⟩ P.n (Nat.le_refl _);exact⟨h.inv,fun j hj=>h.fz j hj hj⟩
def LP.dl(P:LP)(T:aO)(g:Nat->Rat):Nat->Nat->Rat
 | 0,_=>0
 | k+1,i=>if T.o k=P.n+i then g k else P.dl T g k i
def LP.pt(P:LP)(T:aO):Nat->Nat->Rat
 | 0,_=>0
 | i+1,v=>if T.b i=v then T.c i else P.pt T i v
def LP.ry(P:LP)(T:aO)(s:Rat)(a:Nat):Nat->Nat->Rat
 | 0,v=>if T.o a=v then s else 0
 | i+1,v=>if T.b i=v then s*T.f i a else P.ry T s a i v
section
variable {P:LP} {T:aO}
theorem s7(hinj:∀ j j',j<P.n->j'<P.n->T.o j=T.o j'->j=j')(g:Nat->Rat):∀ k i,k<=P.n->(∀ j,j<k->T.o j≠P.n+i)->P.dl T g k i=0
 | 0,_,_,_=>rfl
 | k+1,i,hk,h=>by
  rw[LP.dl,if_neg (h k ae)];exact s7 hinj g k i ae (fun j hj=>h j ae)
theorem zh(h:dG P T)(g:Nat->Rat)(s:Nat->Rat):∀ k,k<=P.n->aN P.m (fun i=>P.dl T g k i*s i)=aN k (fun j=>if P.n<=T.o j then g j*s (T.o j-P.n) else 0)
 | 0,_=>aS (fun i hi=>by simp only[LP.dl];grind)
 | k+1,hk=>by
  have ih:=zh h g s k ae;by_cases hs:P.n<=T.o k
  ·have hlt:T.o k-P.n<P.m:=by have:=h.ol k ae;omega
   have hout:P.dl T g k (T.o k-P.n)=0:=s7 h.oinj g k _ ae (fun j hj e=>by
    have:=h.oinj j k ae ae ae;omega)
   rw[fA hlt] at ih ⊢;rw[hout] at ih;have e1:aN P.m (fun i=>if i=T.o k-P.n then(0:Rat) else P.dl T g (k+1) i*s i)=aN P.m (fun i=>if i=T.o k-P.n then(0:Rat) else P.dl T g k i*s i):=aM (fun i hi=>by
    by_cases hio:i=T.o k-P.n
    ·simp only[if_pos hio]
    ·simp only[if_neg hio,LP.dl,if_neg (show ¬ T.o k=P.n+i by omega)])
   have e2:P.dl T g (k+1) (T.o k-P.n)=g k:=by simp only[LP.dl,if_pos (show T.o k=P.n+(T.o k-P.n) by omega)]
   rw[e1,e2,aN,if_pos hs,← ih];grind
  ·have e1:aN P.m (fun i=>P.dl T g (k+1) i*s i)=aN P.m (fun i=>P.dl T g k i*s i):=aM (fun i hi=>by simp only[LP.dl,if_neg (show ¬ T.o k=P.n+i by omega)]);rw[e1,ih,aN,if_neg hs];grind
def LP.sl(P:LP)(x:Nat->Rat)(i:Nat):Rat:=P.B i-aN P.n (fun k=>P.A i k*x k)
theorem fv(x:Nat->Rat){v:Nat}(hv:P.n<=v):P.val x v=P.sl x (v-P.n):=by simp only[LP.val,LP.sl,if_neg (show ¬ v<P.n by omega)]
theorem eM(x:Nat->Rat){v:Nat}(hv:v<P.n):P.val x v=x v:=by simp only[LP.val,if_pos hv]
theorem rz(h:dG P T)(g:Nat->Rat)(hg:∀ j,j<P.n->T.o j<P.n->g j=0)(x:Nat->Rat):aN P.n (fun j=>g j*P.val x (T.o j))=aN P.m (fun i=>P.dl T g P.n i*P.sl x i):=by
 rw[zh h g (P.sl x) P.n (Nat.le_refl _)];refine aM (fun j hj=>?_);by_cases hs:P.n<=T.o j
 ·rw[if_pos hs,fv x hs]
 ·rw[if_neg hs,hg j hj ae];grind
def LP.comb(P:LP)(y:Nat->Rat)(k:Nat):Rat:=aN P.m (fun i=>y i*P.A i k)
def LP.ib(P:LP)(y:Nat->Rat):Rat:=aN P.m (fun i=>y i*P.B i)
theorem o6(y x:Nat->Rat):aN P.m (fun i=>y i*P.sl x i)=P.ib y-aN P.n (fun k=>P.comb y k*x k):=by
 have h1:aN P.m (fun i=>y i*P.sl x i)=aN P.m (fun i=>y i*P.B i+(-1)*aN P.n (fun k=>y i*P.A i k*x k)):=aM (fun i hi=>by
  have:aN P.n (fun k=>y i*P.A i k*x k)=y i*aN P.n (fun k=>P.A i k*x k):=by rw[← aX];exact aM (fun k hk=>by grind)
  rw[this];simp only[LP.sl];grind)
 have h2:aN P.m (fun i=>aN P.n (fun k=>y i*P.A i k*x k))=aN P.n (fun k=>P.comb y k*x k):=by
  rw[qq];refine aM (fun k hk=>?_);have:(fun i=>y i*P.A i k*x k)=fun i=>x k*(y i*P.A i k):=by funext i;grind
  rw[this,aX];simp only[LP.comb];grind
 rw[h1,fW,aX,h2];simp only[LP.ib];grind
theorem mI{c d:Rat}{u w:Nat->Rat}{n:Nat}(h:∀ x:Nat->Rat,c+aN n (fun k=>u k*x k)=d+aN n (fun k=>w k*x k)):c=d/\∀ k,k<n->u k=w k:=by
 have h0:=h (fun _=>0);rw[aS (fun k hk=>by grind),aS (fun k hk=>by grind)] at h0;refine⟨by grind,fun k hk=>?_⟩;have h1:=h (fun j=>if j=k then 1 else 0);rw[dx hk _ (fun j hj hne=>by rw[if_neg hne];grind),dx hk _ (fun j hj hne=>by rw[if_neg hne];grind),if_pos rfl] at h1;grind
def LP.eP(P:LP)(x:Nat->Rat):Prop:=∀ i,i<P.m->aN P.n (fun k=>P.A i k*x k)<=P.B i
structure cg(P:LP)(y:Nat->Rat):Prop where
 pos:∀ i,i<P.m->0<=y i
 comb:∀ k,k<P.n->P.comb y k=0
 neg:P.ib y<0
structure eH(P:LP)(v:Rat)(x y:Nat->Rat):Prop where
 eP:P.eP x
 pos:∀ i,i<P.m->0<=y i
 comb:∀ k,k<P.n->P.comb y k=-P.C k
 ib:P.ib y=-v
 worth:P.obj x=v
structure dY(P:LP)(x d:Nat->Rat):Prop where
 eP:P.eP x
 row:∀ i,i<P.m->aN P.n (fun k=>P.A i k*d k)<=0
 worth:P.obj d<0
def LP.ref(P:LP)(T:aO)(r i:Nat):Rat:=if T.b r=P.n+i then 1 else -P.dl T (T.f r) P.n i
theorem oD(g:Nat->Rat)(hg:∀ j,j<P.n->P.n<=T.o j->0<=g j):∀ k i,k<=P.n->0<=P.dl T g k i
 | 0,_,_=>Rat.le_refl
 | k+1,i,hk=>by
  rw[LP.dl];split
  ·exact hg k ae ae
  ·exact oD g hg k i ae
theorem oC(g:Nat->Rat)(hg:∀ j,j<P.n->P.n<=T.o j->g j<=0):∀ k i,k<=P.n->P.dl T g k i<=0
 | 0,_,_=>Rat.le_refl
 | k+1,i,hk=>by
  rw[LP.dl];split
  ·exact hg k ae ae
  ·exact oC g hg k i ae
theorem An(h:Good P T){r:Nat}(hr:r<P.m)(hs:P.n<=T.b r)(hc:T.c r<0)(hn:∀ j,j<P.n->P.n<=T.o j->T.f r j<=0):cg P (P.ref T r):=by
 have key:∀ x,aN P.m (fun i=>P.ref T r i*P.sl x i)=T.c r:=fun x=>by
  have hlt:T.b r-P.n<P.m:=by have:=h.inv.bl r hr;omega
  have e:=h.inv.line r hr x;rw[rz h.inv (T.f r) (fun j hj ho=>h.fz j hj ho r hr hs),fv x hs] at e;have hout:P.dl T (T.f r) P.n (T.b r-P.n)=0:=s7 h.inv.oinj _ P.n _ (Nat.le_refl _) (fun j hj e=>h.inv.bo r j hr hj ae);have e1:aN P.m (fun i=>P.ref T r i*P.sl x i)=aN P.m (fun i=>if i=T.b r-P.n then 0 else P.ref T r i*P.sl x i)+P.sl x (T.b r-P.n):=by
   rw[fA hlt];have:P.ref T r (T.b r-P.n)=1:=by simp only[LP.ref,if_pos (show T.b r=P.n+(T.b r-P.n) by omega)]
   rw[this];grind
  have e2:aN P.m (fun i=>if i=T.b r-P.n then 0 else P.ref T r i*P.sl x i)=-1*aN P.m (fun i=>P.dl T (T.f r) P.n i*P.sl x i):=by
   rw[← aX];refine aM (fun i hi=>?_);by_cases hir:i=T.b r-P.n
   ·rw[if_pos hir,hir,hout];grind
   ·rw[if_neg hir];simp only[LP.ref,if_neg (show ¬ T.b r=P.n+i by omega)];grind
  rw[e1,e2,e];grind
 have lin:=mI (c:=P.ib (P.ref T r)) (d:=T.c r) (u:=fun k=>-P.comb (P.ref T r) k) (w:=fun _=>0) (n:=P.n) (fun x=>by
  have:=key x;rw[o6] at this;rw[aS (g:=fun k=>(0:Rat)*x k) (fun k hk=>by grind),show(fun k=>-P.comb (P.ref T r) k*x k)=fun k=>-1*(P.comb (P.ref T r) k*x k) by funext k;grind,aX];grind)
 refine⟨fun i hi=>?_,fun k hk=>by have:=lin.2 k hk;grind,by rw[lin.1];exact hc⟩;simp only[LP.ref];split
 ·decide
 ·have:=oC (T:=T) (T.f r) hn P.n i (Nat.le_refl _);grind
theorem xZ:∀ i v,(∀ w,w<i->T.b w≠v)->P.pt T i v=0
 | 0,_,_=>rfl
 | i+1,v,h=>by rw[LP.pt,if_neg (h i ae)];exact xZ i v (fun w hw=>h w ae)
theorem Bn(h:dG P T):∀ i r,r<i->i<=P.m->P.pt T i (T.b r)=T.c r
 | 0,_,h1,_=>ae
 | i+1,r,h1,h2=>by
  rw[LP.pt];by_cases e:T.b i=T.b r
  ·rw[if_pos e,h.binj i r ae ae e]
  ·rw[if_neg e];exact Bn h i r (Nat.lt_of_le_of_ne ae (fun hir=>e (by rw[hir]))) ae
theorem xF(s:Rat)(a:Nat):∀ i v,(∀ w,w<i->T.b w≠v)->P.ry T s a i v=if T.o a=v then s else 0
 | 0,_,_=>rfl
 | i+1,v,h=>by rw[LP.ry,if_neg (h i ae)];exact xF s a i v (fun w hw=>h w ae)
theorem Bh(h:dG P T)(s:Rat)(a:Nat):∀ i r,r<i->i<=P.m->P.ry T s a i (T.b r)=s*T.f r a
 | 0,_,h1,_=>ae
 | i+1,r,h1,h2=>by
  rw[LP.ry];by_cases e:T.b i=T.b r
  ·rw[if_pos e,h.binj i r ae ae e]
  ·rw[if_neg e];exact Bh h s a i r (Nat.lt_of_le_of_ne ae (fun hir=>e (by rw[hir]))) ae
theorem Cd(h:dG P T){x:Nat->Rat}(hx:∀ j,j<P.n->P.val x (T.o j)=0):∀ k,k<P.n->P.pt T P.m k=x k:=fun k hk=>by
 rcases h.all k ae with⟨i,hi,e⟩|⟨j,hj,e⟩
 ·have e1:=h.line i hi x;rw[aS (fun q hq=>by rw[hx q hq];grind),e,eM x hk] at e1;rw[← e,Bn h P.m i hi (Nat.le_refl _),e,e1];grind
 ·have e1:=hx j hj;rw[e,eM x hk] at e1;rw[xZ P.m k (fun w hw e'=>h.bo w j hw hj (by rw[e,e'])),e1]
theorem val_congr{x y:Nat->Rat}(h:∀ k,k<P.n->x k=y k)(v:Nat):P.val x v=P.val y v:=by
 by_cases hv:v<P.n
 ·rw[eM x hv,eM y hv,h v hv]
 ·rw[fv x ae,fv y ae,LP.sl,LP.sl,aM (fun k hk=>by rw[h k hk])]
theorem ml(h:dG P T):∀ j,j<P.n->P.val (P.pt T P.m) (T.o j)=0:=fun j hj=>by
 obtain⟨x,hx⟩:=h.surj (fun _=>0);rw[val_congr (Cd h hx)];exact hx j hj
theorem x4(h:dG P T){i:Nat}(hi:i<P.m):P.val (P.pt T P.m) (T.b i)=T.c i:=by
 rw[h.line i hi,aS (fun q hq=>by rw[ml h q hq];grind)];grind
theorem Cf(h:dG P T):P.obj (P.pt T P.m)=T.wc:=by
 rw[h.worth,aS (fun q hq=>by rw[ml h q hq];grind)];grind
theorem tO(h:dG P T)(hp:Pos P T):P.eP (P.pt T P.m):=fun i hi=>by
 have hs:0<=P.sl (P.pt T P.m) i:=by
  have hv:P.val (P.pt T P.m) (P.n+i)=P.sl (P.pt T P.m) i:=by rw[fv _ ae];congr 1;omega
  rw[← hv];rcases h.all (P.n+i) ae with⟨w,hw,e⟩|⟨j,hj,e⟩
  ·rw[← e,x4 h hw];exact hp w hw ae
  ·rw[← e,ml h j hj];exact Rat.le_refl
 simp only[LP.sl] at hs;grind
theorem C5(h:eY P T)(hw:∀ j,j<P.n->P.n<=T.o j->0<=T.wf j):eH P T.wc (P.pt T P.m) (P.dl T T.wf P.n):=by
 have lin:=mI (c:=0) (d:=T.wc+P.ib (P.dl T T.wf P.n)) (u:=P.C) (w:=fun k=>-P.comb (P.dl T T.wf P.n) k) (n:=P.n) (fun x=>by
  have e:=h.inv.worth x;rw[rz h.inv T.wf h.wz,o6] at e;simp only[LP.obj] at e;rw[show(fun k=>-P.comb (P.dl T T.wf P.n) k*x k)=fun k=>-1*(P.comb (P.dl T T.wf P.n) k*x k) by funext k;grind,aX,e];grind)
 exact⟨tO h.inv h.pos,fun i hi=>oD (T:=T) T.wf hw P.n i (Nat.le_refl _),fun k hk=>by have:=lin.2 k hk;grind,by have:=lin.1;grind,Cf h.inv⟩
theorem BZ (h:dG P T) (s:Rat) {a:Nat} (ha:a<P.n) {x z:Nat->Rat} (hx:∀ j,j<P.n->P.val x (T.o j)=0) (hz:∀ j,j<P.n->P.val z (T.o j)=if j=a then s else 0) :
    ∀ k,k<P.n->P.ry T s a P.m k=z k-x k:=fun k hk=>by
 rcases h.all k ae with⟨i,hi,e⟩|⟨j,hj,e⟩
 ·have e1:=h.line i hi x;have e2:=h.line i hi z;rw[aS (fun q hq=>by rw[hx q hq];grind),e,eM x hk] at e1;rw[dx ha _ (fun q hq hne=>by rw[hz q hq,if_neg hne];grind),hz a ha,if_pos rfl,e,eM z hk] at e2;rw[← e,Bh h s a P.m i hi (Nat.le_refl _),e,e1,e2];grind
 ·have e1:=hx j hj;have e2:=hz j hj;rw[e,eM x hk] at e1;rw[e,eM z hk] at e2;rw[xF s a P.m k (fun w hw e'=>h.bo w j hw hj (by rw[e,e'])),e1,e2];by_cases hja:j=a
  ·rw[if_pos hja,if_pos (by rw[← hja,e])];grind
  ·rw[if_neg hja,if_neg (fun e'=>hja (h.oinj j a hj ha (by rw[e,e'])))];grind
theorem mX (h:dG P T) (hp:Pos P T) (s:Rat) {a:Nat} (ha:a<P.n) (hw:T.wf a*s<0) (hr:∀ i,i<P.m->P.n<=T.b i->0<=T.f i a*s) (ho:P.n<=T.o a->0<=s) :
    dY P (P.pt T P.m) (P.ry T s a P.m):=by
 obtain⟨x,hx⟩:=h.surj (fun _=>0);obtain⟨z,hz⟩:=h.surj (fun j=>if j=a then s else 0);have hd:=BZ h s ha hx hz;refine⟨tO h hp,fun i hi=>?_,?_⟩
 ·have e:aN P.n (fun k=>P.A i k*P.ry T s a P.m k)=P.sl x i-P.sl z i:=by
   rw[aM (h:=fun k=>P.A i k*z k+-1*(P.A i k*x k)) (fun k hk=>by rw[hd k hk];grind),fW,aX];simp only[LP.sl];grind
  have hv:∀ x,P.val x (P.n+i)=P.sl x i:=fun x=>by rw[fv _ ae];congr 1;omega
  rw[e,← hv x,← hv z];rcases h.all (P.n+i) ae with⟨w,hw1,e'⟩|⟨j,hj,e'⟩
  ·rw[← e',h.line w hw1 x,h.line w hw1 z,aS (fun q hq=>by rw[hx q hq];grind),dx ha _ (fun q hq hne=>by rw[hz q hq,if_neg hne];grind),hz a ha,if_pos rfl];have:=hr w hw1 ae;grind
  ·rw[← e',hx j hj,hz j hj];by_cases hja:j=a
   ·rw[if_pos hja];have:=ho (by rw[← hja,e'];omega);grind
   ·rw[if_neg hja];grind
 ·have e:P.obj (P.ry T s a P.m)=P.obj z-P.obj x:=by
   simp only[LP.obj];rw[aM (h:=fun k=>P.C k*z k+-1*(P.C k*x k)) (fun k hk=>by rw[hd k hk];grind),fW,aX];grind
  rw[e,h.worth x,h.worth z,aS (g:=fun q=>T.wf q*P.val x (T.o q)) (fun q hq=>by rw[hx q hq];grind),dx ha _ (fun q hq hne=>by rw[hz q hq,if_neg hne];grind),hz a ha,if_pos rfl];grind
theorem cg.none{y:Nat->Rat}(h:cg P y)(x:Nat->Rat):¬ P.eP x:=fun hf=>by
 have e:=o6 (P:=P) y x;rw[aS (g:=fun k=>P.comb y k*x k) (fun k hk=>by rw[h.comb k hk];grind)] at e;have h1:0<=aN P.m (fun i=>y i*P.sl x i):=jh (fun i hi=>Rat.mul_nonneg (h.pos i hi) (by have:=hf i hi;simp only[LP.sl];grind));have:=h.neg;grind
theorem eH.least{v:Rat}{x y:Nat->Rat}(h:eH P v x y)(z:Nat->Rat)(hz:P.eP z):v<=P.obj z:=by
 have e:=o6 (P:=P) y z;have e2:aN P.n (fun k=>P.comb y k*z k)=-1*P.obj z:=by
  simp only[LP.obj];rw[← aX];exact aM (fun k hk=>by rw[h.comb k hk];grind)
 have h1:0<=aN P.m (fun i=>y i*P.sl z i):=jh (fun i hi=>Rat.mul_nonneg (h.pos i hi) (by have:=hz i hi;simp only[LP.sl];grind));rw[e,e2,h.ib] at h1;grind
theorem dY.deep{x d:Nat->Rat}(h:dY P x d)(c:Rat):∃ z,P.eP z/\P.obj z<c:=by
 have hd:=h.worth;have hi:0<(-P.obj d)⁻¹:=Rat.inv_pos.2 (by grind)
 let t:Rat:=if P.obj x<c then 0 else(P.obj x-c+1)*(-P.obj d)⁻¹
 have ht:0<=t:=by
  show 0<=(if P.obj x<c then(0:Rat) else(P.obj x-c+1)*(-P.obj d)⁻¹);split
  ·exact Rat.le_refl
  ·exact Rat.mul_nonneg (by grind) (Rat.le_of_lt hi)
 have hs:∀ u:Nat->Rat,aN P.n (fun k=>u k*(x k+t*d k))=aN P.n (fun k=>u k*x k)+t*aN P.n (fun k=>u k*d k):=fun u=>by
  rw[← aX,← fW];exact aM (fun k hk=>by grind)
 refine⟨fun k=>x k+t*d k,fun i hi'=>?_,?_⟩
 ·rw[hs];have h1:=h.eP i hi';have h2:=h.row i hi';have:=Rat.mul_nonneg ht (show 0<=-aN P.n (fun k=>P.A i k*d k) by grind);grind
 ·have e:P.obj (fun k=>x k+t*d k)=P.obj x+t*P.obj d:=hs P.C;rw[e];show P.obj x+(if P.obj x<c then(0:Rat) else(P.obj x-c+1)*(-P.obj d)⁻¹)*P.obj d<c;split
  ·grind
  ·have:(P.obj x-c+1)*(-P.obj d)⁻¹*P.obj d=-(P.obj x-c+1):=by grind
   rw[this];grind
end
end Go.Proofs.YtmahadmefplbnaaGreatDoor
namespace Go.Proofs.YtmahadmefplbnaaGreatDoor
def ZB(B:Nat)(x:Rat):Prop:=∃ e:Int,x=(e:Rat)/\e.natAbs<=B
section
variable {A B:Nat} {x y:Rat}
theorem ZB.mono(h:ZB A x)(hb:A<=B):ZB B x:=let ⟨e,h1,h2⟩:=h;⟨e,h1,Nat.le_trans h2 hb⟩
theorem ZB.add(h:ZB A x)(k:ZB B y):ZB (A+B) (x+y):=by
 obtain⟨e,h1,h2⟩:=h;obtain⟨f,k1,k2⟩:=k;exact⟨e+f,by rw[h1,k1,Rat.intCast_add],Nat.le_trans (Int.natAbs_add_le _ _) ae⟩
theorem ZB.mul(h:ZB A x)(k:ZB B y):ZB (A*B) (x*y):=by
 obtain⟨e,h1,h2⟩:=h;obtain⟨f,k1,k2⟩:=k;exact⟨e*f,by rw[h1,k1,Rat.intCast_mul],by rw[Int.natAbs_mul];exact Nat.mul_le_mul h2 k2⟩
theorem ZB.neg(h:ZB A x):ZB A (-x):=by
 obtain⟨e,h1,h2⟩:=h;exact⟨-e,by rw[h1,Rat.intCast_neg],by rw[Int.natAbs_neg];exact h2⟩
theorem ZB.zero(A:Nat):ZB A 0:=⟨0,rfl,Nat.zero_le _⟩
theorem ZB.one(h:1<=A):ZB A 1:=⟨1,rfl,h⟩
theorem ZB.sum{n:Nat}{g:Nat->Rat}(h:∀ j,j<n->ZB B (g j)):ZB (n*B) (aN n g):=by
 induction n with
 | zero=>rw[aN];exact ZB.zero _
 | succ n ih=>rw[aN];exact((ih (fun j hj=>h j ae)).add (h n ae)).mono (by rw[Nat.add_mul,Nat.one_mul];exact Nat.le_refl _)
end
def GB:Nat->Nat->Nat
 | 0,_=>1
 | n+1,K=>(n+1)*K*GB n (2*K*K)
theorem zo:∀ (n K d:Nat) (a:Nat->Nat->Rat) (t f:Nat->Rat),1<=K->(∀ j,j<n->∀ k,k<d->ZB K (a j k))->(∀ k,k<d->ZB K (t k)) ->
    (∀ k,k<d->aN n (fun j=>f j*a j k)=t k)->(∀ g:Nat->Rat,(∀ k,k<d->aN n (fun j=>g j*a j k)=0)->∀ j,j<n->g j=0) ->
    ∃ D:Rat,D≠0/\ZB (GB n K) D/\∀ j,j<n->ZB (GB n K) (D*f j)
 | 0,K,d,a,t,f,hK,ha,ht,he,hi=>⟨1,af,⟨1,rfl,Nat.le_refl _⟩,fun j hj=>ae⟩
 | n+1,K,d,a,t,f,hK,ha,ht,he,hi=>by
  have hp:∃ k0,k0<d/\a n k0≠0:=by
   rcases Classical.em (∃ k0,k0<d/\a n k0≠0) with h|h
   ·exact h
   ·have:=hi (fun j=>if j=n then 1 else 0) (fun k hk=>by
     rw[dx (show n<n+1 by omega) _ (fun j hj hne=>by rw[if_neg hne];grind),if_pos rfl];have:a n k=0:=Classical.not_not.1 (fun h'=>h ⟨k,hk,h'⟩);rw[this];grind) n ae
    simp at this
  obtain⟨k0,hk0,hp0⟩:=hp;have hsum:∀ (g:Nat->Rat) (k:Nat),aN n (fun j=>g j*(a n k0*a j k+-(a j k0*a n k)))=a n k0*aN n (fun j=>g j*a j k)+-(a n k)*aN n (fun j=>g j*a j k0):=fun g k=>by
   rw[← aX,← aX,← fW];exact aM (fun j hj=>by grind)
  obtain⟨D,d0,d1,d2⟩:=zo n (2*K*K) d (fun j k=>a n k0*a j k+-(a j k0*a n k)) (fun k=>a n k0*t k+-(t k0*a n k)) f
   (by have:=Nat.mul_le_mul hK hK;rw[Nat.mul_assoc];omega)
   (fun j hj k hk=>(((ha n ae k0 hk0).mul (ha j ae k hk)).add ((ha j ae k0 hk0).mul (ha n ae k hk)).neg).mono (by rw[Nat.mul_assoc];omega))
   (fun k hk=>(((ha n ae k0 hk0).mul (ht k hk)).add ((ht k0 hk0).mul (ha n ae k hk)).neg).mono (by rw[Nat.mul_assoc];omega))
   (fun k hk=>by
    have e0:=he k0 hk0;have ek:=he k hk;rw[aN] at e0 ek;rw[hsum,← ek,← e0];generalize aN n (fun j=>f j*a j k)=S;generalize aN n (fun j=>f j*a j k0)=R;grind)
   (fun g hg j hj=>by
    have h1:=hi (fun j=>if j=n then -(aN n (fun j=>g j*a j k0)) else a n k0*g j) (fun k hk=>by
     have h2:aN n (fun j=>(if j=n then -(aN n (fun j=>g j*a j k0)) else a n k0*g j)*a j k)=a n k0*aN n (fun j=>g j*a j k):=by
      rw[← aX];exact aM (fun j hj=>by rw[if_neg (show ¬ j=n by omega)];grind)
     have h3:=hg k hk;rw[hsum] at h3;rw[aN,h2,if_pos rfl];generalize aN n (fun j=>g j*a j k)=S at *;generalize aN n (fun j=>g j*a j k0)=R at *;grind) j ae
    rw[if_neg (show ¬ j=n by omega)] at h1;exact(Rat.mul_eq_zero.1 h1).resolve_left hp0)
  have e0:=he k0 hk0;rw[aN] at e0;have hG:GB n (2*K*K)*K<=GB (n+1) K:=by
   rw[GB];generalize GB n (2*K*K)=Z;rw[Nat.mul_assoc,Nat.mul_comm Z K];exact Nat.le_mul_of_pos_left _ (Nat.succ_pos n)
  refine⟨D*a n k0,fun h=>(Rat.mul_eq_zero.1 h).elim d0 hp0,(d1.mul (ha n ae k0 hk0)).mono hG,fun j hj=>?_⟩;by_cases hjn:j=n
  ·subst hjn;have h1:D*a j k0*f j=D*t k0+-(aN j (fun i=>D*f i*a i k0)):=by
    have h2:aN j (fun i=>D*f i*a i k0)=D*aN j (fun i=>f i*a i k0):=by rw[← aX];exact aM (fun i hi=>by grind)
    rw[h2,← e0];generalize aN j (fun i=>f i*a i k0)=S;grind
   rw[h1];refine((d1.mul (ht k0 hk0)).add (ZB.sum (fun i hi=>(d2 i hi).mul (ha i ae k0 hk0))).neg).mono ?_;rw[GB];generalize GB j (2*K*K)=Z;rw[Nat.mul_assoc,Nat.mul_comm K Z,Nat.add_mul,Nat.one_mul];omega
  ·have h1:D*a n k0*f j=D*f j*a n k0:=by grind
   rw[h1];exact((d2 j ae).mul (ha n ae k0 hk0)).mono hG
theorem ZB.qb{G q:Nat}{D x:Rat}(h0:D≠0)(h1:ZB G D)(h2:ZB G (D*x))(hq:G<10 ^ q):QB q x:=by
 obtain⟨d,e1,e2⟩:=h1;obtain⟨e,f1,f2⟩:=h2;have hd:d≠0:=fun h=>h0 (by rw[e1,h];rfl)
 have key:∃ z:Int,z.natAbs=e.natAbs/\x=mkRat z d.natAbs:=by
  rcases Int.natAbs_eq d with h|h
  ·refine⟨e,rfl,?_⟩;rw[Rat.mkRat_eq_div,show((d.natAbs:Nat):Rat)=D by rw[← Rat.intCast_natCast,← h,e1],← f1];rw[Rat.mul_comm,Rat.mul_div_cancel h0]
  ·refine⟨-e,Int.natAbs_neg e,?_⟩;rw[Rat.mkRat_eq_div,show((d.natAbs:Nat):Rat)=-D by rw[← Rat.intCast_natCast,show(d.natAbs:Int)=-d by omega,Rat.intCast_neg,e1],Rat.intCast_neg,← f1];grind
 obtain⟨z,hz,hx⟩:=key;rw[hx];exact QB.mk' ae ae ae
structure Sz(P:LP)(s:Rat)(K:Nat):Prop where
 one:1<=K
 nz:s≠0
 sb:ZB K s
 A:∀ i,i<P.m->∀ k,k<P.n->ZB K (s*P.A i k)
 B:∀ i,i<P.m->ZB K (s*P.B i)
 C:∀ k,k<P.n->ZB K (s*P.C k)
def LP.uv(P:LP)(v k:Nat):Rat:=if v<P.n then(if k=v then 1 else 0) else -P.A (v-P.n) k
def LP.kv(P:LP)(v:Nat):Rat:=if v<P.n then 0 else P.B (v-P.n)
theorem xg(P:LP)(x:Nat->Rat)(v:Nat):P.val x v=P.kv v+aN P.n (fun k=>P.uv v k*x k):=by
 by_cases hv:v<P.n
 ·simp only[LP.val,LP.kv,LP.uv,if_pos hv];rw[dx hv _ (fun j hj hne=>by rw[if_neg hne];grind),if_pos rfl];grind
 ·simp only[LP.val,LP.kv,LP.uv,if_neg hv];rw[show(fun k=>-P.A (v-P.n) k*x k)=fun k=>-1*(P.A (v-P.n) k*x k) by funext k;grind,aX];grind
theorem pX(P:LP)(o:Nat->Nat)(g x:Nat->Rat):aN P.n (fun j=>g j*P.val x (o j))=aN P.n (fun j=>g j*P.kv (o j))+aN P.n (fun k=>aN P.n (fun j=>g j*P.uv (o j) k)*x k):=by
 have h1:aN P.n (fun j=>g j*P.val x (o j))=aN P.n (fun j=>g j*P.kv (o j)+aN P.n (fun k=>g j*P.uv (o j) k*x k)):=aM (fun j hj=>by
  rw[xg,show(fun k=>g j*P.uv (o j) k*x k)=fun k=>g j*(P.uv (o j) k*x k) by funext k;grind,aX];grind)
 have h2:aN P.n (fun j=>aN P.n (fun k=>g j*P.uv (o j) k*x k))=aN P.n (fun k=>aN P.n (fun j=>g j*P.uv (o j) k)*x k):=by
  rw[qq];refine aM (fun k hk=>?_);rw[show(fun j=>g j*P.uv (o j) k*x k)=fun j=>x k*(g j*P.uv (o j) k) by funext j;grind,aX];grind
 rw[h1,fW,h2]
section
variable {P:LP} {T:aO} {s:Rat} {K q:Nat}
theorem Sz.uv(S:Sz P s K){v:Nat}(hv:v<P.n+P.m){k:Nat}(hk:k<P.n):ZB K (s*P.uv v k):=by
 simp only[LP.uv];split
 ·split
  ·rw[Rat.mul_one];exact S.sb
  ·rw[Rat.mul_zero];exact ZB.zero _
 ·rw[show s * -P.A (v-P.n) k=-(s*P.A (v-P.n) k) by grind];exact(S.A _ ae k hk).neg
theorem Sz.kv(S:Sz P s K){v:Nat}(hv:v<P.n+P.m):ZB K (s*P.kv v):=by
 simp only[LP.kv];split
 ·rw[Rat.mul_zero];exact ZB.zero _
 ·exact S.B _ ae
theorem ud (S:Sz P s K) (h:dG P T) (hq:(P.n+1)*K*GB P.n K<10 ^ q) {c0 c:Rat} {u0 g:Nat->Rat} (h0:ZB K (s*c0)) (hu:∀ k,k<P.n->ZB K (s*u0 k))
    (he:∀ x:Nat->Rat,c0+aN P.n (fun k=>u0 k*x k)=c+aN P.n (fun j=>g j*P.val x (T.o j))):QB q c/\∀ j,j<P.n->QB q (g j):=by
 obtain⟨e1,e2⟩:=mI (c:=c0) (d:=c+aN P.n (fun j=>g j*P.kv (T.o j))) (u:=u0) (w:=fun k=>aN P.n (fun j=>g j*P.uv (T.o j) k)) (n:=P.n) (fun x=>by
  rw[he x,pX];grind)
 have hind:∀ g':Nat->Rat,(∀ k,k<P.n->aN P.n (fun j=>g' j*P.uv (T.o j) k)=0)->∀ j,j<P.n->g' j=0:=fun g' hg j hj=>by
  obtain⟨x,hx⟩:=h.surj (fun i=>if i=j then 1 else 0);obtain⟨z,hz⟩:=h.surj (fun _=>0);have a1:=pX P T.o g' x;have a2:=pX P T.o g' z;rw[dx hj _ (fun i hi hne=>by rw[hx i hi,if_neg hne];grind),hx j hj,if_pos rfl,aS (g:=fun k=>aN P.n (fun j=>g' j*P.uv (T.o j) k)*x k) (fun k hk=>by rw[hg k hk];grind)] at a1;rw[aS (fun i hi=>by rw[hz i hi];grind),aS (g:=fun k=>aN P.n (fun j=>g' j*P.uv (T.o j) k)*z k) (fun k hk=>by rw[hg k hk];grind)] at a2;grind
 have hsm:∀ (g':Nat->Rat) (k:Nat),aN P.n (fun j=>g' j*(s*P.uv (T.o j) k))=s*aN P.n (fun j=>g' j*P.uv (T.o j) k):=fun g' k=>by
  rw[← aX];exact aM (fun j hj=>by grind)
 obtain⟨D,d0,d1,d2⟩:=zo P.n K P.n (fun j k=>s*P.uv (T.o j) k) (fun k=>s*u0 k) g S.one (fun j hj k hk=>S.uv (h.ol j hj) hk) hu
  (fun k hk=>by rw[hsm,e2 k hk])
  (fun g' hg=>hind g' (fun k hk=>by
   have:=hg k hk;rw[hsm] at this;exact(Rat.mul_eq_zero.1 this).resolve_left S.nz))
 have hK:=S.one;have hG:GB P.n K<=(P.n+1)*K*GB P.n K:=Nat.le_mul_of_pos_left _ (Nat.mul_pos ae ae);refine⟨?_,fun j hj=>ZB.qb d0 d1 (d2 j hj) ae⟩;refine ZB.qb (D:=D*s) (G:=(P.n+1)*K*GB P.n K) (fun h=>(Rat.mul_eq_zero.1 h).elim d0 S.nz) ((d1.mul S.sb).mono ?_) ?_ hq
 ·rw[Nat.mul_comm (GB P.n K) K,Nat.mul_assoc];exact Nat.le_mul_of_pos_left _ ae
 ·have h1:D*s*c=D*(s*c0)+-(aN P.n (fun j=>D*g j*(s*P.kv (T.o j)))):=by
   have h2:aN P.n (fun j=>D*g j*(s*P.kv (T.o j)))=D*s*aN P.n (fun j=>g j*P.kv (T.o j)):=by rw[← aX];exact aM (fun j hj=>by grind)
   rw[h2,e1];generalize aN P.n (fun j=>g j*P.kv (T.o j))=R;grind
  rw[h1];refine((d1.mul h0).add (ZB.sum (fun j hj=>(d2 j hj).mul (S.kv (h.ol j hj)))).neg).mono ?_;rw[Nat.mul_assoc,Nat.mul_comm K (GB P.n K),Nat.add_mul,Nat.one_mul];omega
structure TQ(P:LP)(T:aO)(q:Nat):Prop where
 c:∀ i,i<P.m->QB q (T.c i)
 f:∀ i,i<P.m->∀ j,j<P.n->QB q (T.f i j)
 wc:QB q T.wc
 wf:∀ j,j<P.n->QB q (T.wf j)
theorem BN(S:Sz P s K)(h:dG P T)(hq:(P.n+1)*K*GB P.n K<10 ^ q):TQ P T q:=by
 have hl:∀ i,i<P.m->QB q (T.c i)/\∀ j,j<P.n->QB q (T.f i j):=fun i hi =>
  ud S h hq (S.kv (h.bl i hi)) (fun k hk=>S.uv (h.bl i hi) hk) (fun x=>by rw[← xg];exact h.line i hi x)
 have hw:QB q T.wc/\∀ j,j<P.n->QB q (T.wf j):=ud (c0:=0) (u0:=P.C) S h hq (by rw[Rat.mul_zero];exact ZB.zero _) S.C (fun x=>by
  rw[← h.worth x];simp only[LP.obj];grind)
 exact⟨fun i hi=>(hl i hi).1,fun i hi=>(hl i hi).2,hw.1,hw.2⟩
end
def zP(P:LP)(q:Nat):Prop:=∀ T,dG P T->TQ P T q
theorem Sz.Dt{P:LP}{s:Rat}{K q:Nat}(S:Sz P s K)(hq:(P.n+1)*K*GB P.n K<10 ^ q):zP P q:=fun _ h=>BN S h hq
end Go.Proofs.YtmahadmefplbnaaGreatDoor
namespace Go.Proofs.YtmahadmefplbnaaGreatDoor
theorem oj{s:aO->aO}{halt:aO->Prop}(hs:∀ T,halt T->s T=T){N:Nat}{T:aO}(h:halt (mU s N T)):∀ d,mU s (N+d) T=mU s N T
 | 0=>rfl
 | d+1=>by
  have ih:=oj hs h d;show s (mU s (N+d) T)=_;rw[ih];exact hs _ h
theorem yU{s:aO->aO}{halt:aO->Prop}(hs:∀ T,halt T->s T=T){N k:Nat}{T:aO}(h:halt (mU s N T))(hk:¬ halt (mU s k T)):k<N:=by
 rcases Nat.lt_or_ge k N with h'|h'
 ·exact h'
 ·exfalso;have e:=oj hs h (k-N);rw[show N+(k-N)=k by omega] at e;exact hk (by rw[e];exact h)
section
variable {P:LP} {T:aO}
structure EV(P:LP)(T:aO)(r:Nat):Prop where
 lt:r<P.m
 slack:P.n<=T.b r
 neg:T.c r<0
 all:∀ j,j<P.n->P.n<=T.o j->T.f r j<=0
theorem xJ(h:P.jj T<0):Pos P T:=by
 rcases ki P T with⟨_,h2⟩|⟨r,_,h2,_⟩
 ·exact h2
 ·omega
theorem Bd{r:Nat}(h1:r<P.m)(h2:P.n<=T.b r)(h3:T.c r<0)(h:P.wK T r<0):EV P T r:=by
 rcases nx P T r with⟨_,g⟩|⟨a,_,g,_⟩
 ·exact⟨h1,h2,h3,g⟩
 ·omega
theorem xu{r a:Nat}(h1:P.jj T=(r:Int))(h2:P.wK T r=(a:Int)):¬ P.iC T/\P.fJ T=T.aG r a:=by
 have hn:¬ P.iC T:=by unfold LP.iC;rw[h1,Int.toNat_natCast,h2];omega
 refine⟨hn,?_⟩;unfold LP.fJ;unfold LP.iC at hn;rw[if_neg hn,h1,Int.toNat_natCast,h2,Int.toNat_natCast]
theorem Bb(h:P.Dh T<0):WZ P T:=by
 rcases rM P T with⟨_,h2⟩|⟨r,_,h2,_⟩
 ·exact h2
 ·omega
theorem Bc(h:P.tj T<0):∀ j,j<P.n->P.n<=T.o j->0<=T.wf j:=by
 rcases nw P T with⟨_,h2⟩|⟨r,_,h2,_⟩
 ·exact h2
 ·omega
theorem Cr{a:Nat}(h:P.lv T a P.m<0):∀ i,i<P.m->P.n<=T.b i->0<=T.f i a:=by
 rcases lj P T a P.m with⟨_,h2⟩|⟨r,_,h2,_⟩
 ·exact h2
 ·omega
theorem xt{r a:Nat}(h1:P.tj T=(a:Int))(h2:P.lv T a P.m=(r:Int)):¬ P.iB T/\P.fI T=T.aG r a:=by
 have hn:¬ P.iB T:=by unfold LP.iB;rw[h1,Int.toNat_natCast,h2];omega
 refine⟨hn,?_⟩;unfold LP.fI;unfold LP.iB at hn;rw[if_neg hn,h1,Int.toNat_natCast,h2,Int.toNat_natCast]
end
end Go.Proofs.YtmahadmefplbnaaGreatDoor
