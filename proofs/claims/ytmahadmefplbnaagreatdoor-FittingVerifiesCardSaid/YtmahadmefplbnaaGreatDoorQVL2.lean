/- Part 2. -/
import Derived.Test.YtmahadmefplbnaaGreatDoorQVLA
import Derived.Test.YtmahadmefplbnaaGreatDoorQVL1
import Derived.Lib.IndexMore
import Derived.Lib.Bytealg
set_option maxRecDepth 100000
set_option maxHeartbeats 2000000
set_option linter.unusedVariables false
namespace Go.Proofs.YtmahadmefplbnaaGreatDoor
open Go
def ql(q:Rat):List UInt8:=if q.den=1 then zl q.num else zl q.num ++ 47 :: Lib.decDigits q.den
def qs(q:Rat):ByteArray:=⟨(ql q).toArray⟩
theorem iO(q:Rat):(qs q).data.toList=ql q:=by simp[qs]
theorem rz(q:Rat):(qs q).size=(ql q).length:=by simp[qs,ByteArray.size]
theorem sQ(n:Int):ql (n:Rat)=zl n:=by simp[ql]
theorem qq(n:Int):qs (n:Rat)=zs n:=by unfold qs zs;rw[sQ]
theorem ik{q:Rat}(h:q.den=1):ql q=zl q.num:=by unfold ql;rw[if_pos h]
theorem fV{q:Rat}(h:q.den≠1):ql q=zl q.num ++ 47 :: Lib.decDigits q.den:=by unfold ql;rw[if_neg h]
theorem yr{b:UInt8}(h:fN b=true):b≠47:=by intro e;subst e;simp[fN] at h
theorem se(u:Nat):(47:UInt8) ∉ Lib.decDigits u:=fun h=>yr (di u _ h) rfl
theorem fL(n:Int):(47:UInt8) ∉ zl n:=by
 by_cases h:n<0
 ·rw[dM h];intro e;rcases List.mem_cons.1 e with e|e
  ·exact absurd e af
  ·exact se _ e
 ·rw[dR ae];exact se _
theorem od:∀ {l l' t t':List UInt8},(47:UInt8) ∉ l->(47:UInt8) ∉ l'->l ++ 47 :: t=l' ++ 47 :: t'->l=l'/\t=t'
 | [],[],t,t',_,_,h=>⟨rfl,by simpa using h⟩
 | [],b :: l',t,t',_,h',h=>by simp at h;exact absurd h.1 (fun e=>h' (by simp[← e]))
 | a :: l,[],t,t',hl,_,h=>by simp at h;exact absurd h.1 (fun e=>hl (by simp[e]))
 | a :: l,b :: l',t,t',hl,hl',h=>by
  simp only[List.cons_append,List.cons.injEq] at h;obtain⟨e,h⟩:=h;have:=od (fun e=>hl (List.mem_cons_of_mem _ e)) (fun e=>hl' (List.mem_cons_of_mem _ e)) h;exact⟨by rw[e,this.1],this.2⟩
theorem Ar{a b:Rat}(h:ql a=ql b):a=b:=by
 by_cases ha:a.den=1 <;> by_cases hb:b.den=1
 ·rw[ik ha,ik hb] at h;exact Rat.ext (mH h) (by rw[ha,hb])
 ·rw[ik ha,fV hb] at h;exact absurd (h▸fL a.num) (by simp)
 ·rw[fV ha,ik hb] at h;exact absurd (h.symm▸fL b.num) (by simp)
 ·rw[fV ha,fV hb] at h;obtain⟨h1,h2⟩:=od (fL _) (fL _) h;exact Rat.ext (mH h1) (Bl h2)
theorem FZ{a b:Rat}:qs a=qs b ↔ a=b :=
 ⟨fun h=>Ar (by rw[← iO,← iO,h]),fun h=>by rw[h]⟩
theorem qaN(q:Rat):ql q≠[]:=by
 by_cases h:q.den=1
 ·rw[ik h];exact Ci _
 ·rw[fV h];simp
theorem C6{q:Rat}:(ql q).head?=some 45 ↔ q.num<0:=by
 by_cases h:q.den=1
 ·rw[ik h];exact lf
 ·rw[fV h,List.head?_append];rw[← lf];cases hz:zl q.num with
  | nil=>exact absurd hz (Ci _)
  | cons b t=>simp
theorem vR{q:Rat}(h:q.num<0):ql q=45 :: ql (-q):=by
 have e:zl q.num=45 :: zl (-q.num):=by rw[dM h,dR ae,Int.natAbs_neg]
 by_cases h1:q.den=1
 ·rw[ik h1,ik (by simpa using h1),e];rfl
 ·rw[fV h1,fV (by simpa using h1),e];rfl
theorem F0{q:Rat}(h:0<q.num):ql (-q)=45 :: ql q:=by
 have:=vR (q:=-q) (by simp;omega);rw[this,Rat.neg_neg]
theorem At{q:Rat}:ql q=[48] ↔ q=0 :=
 ⟨fun h=>Ar (by rw[h];exact(by rw[show(0:Rat)=((0:Int):Rat) from rfl,sQ,L8])),fun h=>by subst h;rw[show(0:Rat)=((0:Int):Rat) from rfl,sQ,L8]⟩
theorem F3{q:Rat}:ql q=[49] ↔ q=1 :=
 ⟨fun h=>Ar (by rw[h];exact(by rw[show(1:Rat)=((1:Int):Rat) from rfl,sQ,L7])),fun h=>by subst h;rw[show(1:Rat)=((1:Int):Rat) from rfl,sQ,L7]⟩
theorem df:qs 0=⟨#[48]⟩:=by unfold qs;rw[At.2 rfl]
theorem sP:qs 1=⟨#[49]⟩:=by unfold qs;rw[F3.2 rfl]
theorem zO:zs 0=⟨#[48]⟩:=by unfold zs;rw[L8]
theorem j3:zs 1=⟨#[49]⟩:=by unfold zs;rw[L7]
class IB(k:Nat)(n:Int):Prop where
 out:n.natAbs<10 ^ k
class QB(k:Nat)(q:Rat):Prop where
 num:q.num.natAbs<10 ^ k
 den:q.den<10 ^ k
theorem IB.mono{k m:Nat}{n:Int}(h:IB k n)(hk:k<=m):IB m n:=⟨Nat.lt_of_lt_of_le h.out (Nat.pow_le_pow_right af hk)⟩
theorem QB.mono{k m:Nat}{q:Rat}(h:QB k q)(hk:k<=m):QB m q :=
 ⟨Nat.lt_of_lt_of_le h.num (Nat.pow_le_pow_right af hk),Nat.lt_of_lt_of_le h.den (Nat.pow_le_pow_right af hk)⟩
theorem ee{a b k m:Nat}(ha:a<10 ^ k)(hb:b<10 ^ m):a*b<10 ^ (k+m):=by
 rw[Nat.pow_add];exact Nat.mul_lt_mul'' ha hb
theorem wk{a b k m:Nat}(ha:a<10 ^ k)(hb:b<10 ^ m):a+b<10 ^ (max k m+1):=by
 have h1:a<10 ^ max k m:=Nat.lt_of_lt_of_le ha (Nat.pow_le_pow_right af (Nat.le_max_left _ _));have h2:b<10 ^ max k m:=Nat.lt_of_lt_of_le hb (Nat.pow_le_pow_right af (Nat.le_max_right _ _));rw[Nat.pow_succ];omega
theorem IB.add{k m:Nat}{a b:Int}(ha:IB k a)(hb:IB m b):IB (max k m+1) (a+b) :=
 ⟨Nat.lt_of_le_of_lt (Int.natAbs_add_le _ _) (wk ha.out hb.out)⟩
theorem IB.mul{k m:Nat}{a b:Int}(ha:IB k a)(hb:IB m b):IB (k+m) (a*b) :=
 ⟨by rw[Int.natAbs_mul];exact ee ha.out hb.out⟩
theorem IB.neg{k:Nat}{a:Int}(ha:IB k a):IB k (-a):=⟨by rw[Int.natAbs_neg];exact ha.out⟩
theorem IB.of_le{k:Nat}{a b:Int}(ha:IB k a)(h:b.natAbs<=a.natAbs):IB k b:=⟨Nat.lt_of_le_of_lt h ha.out⟩
theorem rI(n:Int)(d:Nat):(mkRat n d).num.natAbs<=n.natAbs:=by
 rw[Rat.num_mkRat];split
 ·simp
 ·exact Int.natAbs_ediv_le_natAbs _ _
theorem rJ(n:Int)(d:Nat)(h:d≠0):(mkRat n d).den<=d:=by
 rw[Rat.den_mkRat,if_neg h];exact Nat.div_le_self _ _
theorem QB.mk'{k:Nat}{n:Int}{d:Nat}(h0:d≠0)(h1:n.natAbs<10 ^ k)(h2:d<10 ^ k):QB k (mkRat n d) :=
 ⟨Nat.lt_of_le_of_lt (rI _ _) h1,Nat.lt_of_le_of_lt (rJ _ _ h0) h2⟩
theorem QB.neg{k:Nat}{a:Rat}(ha:QB k a):QB k (-a):=⟨by rw[Rat.neg_num,Int.natAbs_neg];exact ha.num,ha.den⟩
theorem QB.add{k m:Nat}{a b:Rat}(ha:QB k a)(hb:QB m b):QB (k+m+1) (a+b):=by
 rw[Rat.add_def'];refine QB.mk' (Nat.mul_ne_zero a.den_nz b.den_nz) ?_ ?_
 ·refine Nat.lt_of_le_of_lt (Int.natAbs_add_le _ _) ?_;rw[Int.natAbs_mul,Int.natAbs_mul,Int.natAbs_natCast,Int.natAbs_natCast];have h1:=ee ha.num hb.den;have h2:=ee ha.den hb.num;rw[Nat.mul_comm b.num.natAbs,Nat.pow_succ];omega
 ·exact Nat.lt_of_lt_of_le (ee ha.den hb.den) (Nat.pow_le_pow_right af ae)
theorem QB.sub{k m:Nat}{a b:Rat}(ha:QB k a)(hb:QB m b):QB (k+m+1) (a-b):=by
 rw[Rat.sub_eq_add_neg];exact ha.add hb.neg
theorem QB.mul{k m:Nat}{a b:Rat}(ha:QB k a)(hb:QB m b):QB (k+m) (a*b):=by
 rw[Rat.mul_def'];exact QB.mk' (Nat.mul_ne_zero a.den_nz b.den_nz) (by rw[Int.natAbs_mul];exact ee ha.num hb.num) (ee ha.den hb.den)
theorem QB.inv{k:Nat}{a:Rat}(ha:QB k a)(hk:1<=k):QB k a⁻¹:=by
 constructor
 ·rw[Rat.num_inv,Int.natAbs_mul,Int.natAbs_natCast];have:a.num.sign.natAbs<=1:=by rw[Int.natAbs_sign];split <;> omega
  exact Nat.lt_of_le_of_lt (Nat.mul_le_mul_right _ this) (by rw[Nat.one_mul];exact ha.den)
 ·rw[Rat.den_inv];split
  ·exact Nat.one_lt_pow ae af
  ·exact ha.num
theorem QB.div{k m:Nat}{a b:Rat}(ha:QB k a)(hb:QB m b)(hm:1<=m):QB (k+m) (a / b):=by
 rw[Rat.div_def];exact ha.mul (hb.inv hm)
theorem QB.int{k:Nat}{n:Int}(h:IB k n)(hk:1<=k):QB k (n:Rat) :=
 ⟨h.out,Nat.one_lt_pow ae af⟩
theorem DN(a b:Int):Int.gcd b (a.tmod b)=Int.gcd a b:=by
 rw[Int.gcd_eq_natAbs_gcd_natAbs,Int.natAbs_tmod,Int.gcd_eq_natAbs_gcd_natAbs,Nat.gcd_comm,← Nat.gcd_rec,Nat.gcd_comm]
theorem oh(n:Int)(d g:Nat)(hd:d≠0)(hg:Int.gcd n d=g):(mkRat n d).num=n.tdiv g/\(mkRat n d).den=d / g:=by
 have e:d.gcd n.natAbs=g:=by rw[Nat.gcd_comm,← hg];rfl
 rw[Rat.num_mkRat,Rat.den_mkRat,if_neg hd,if_neg hd,e];refine⟨?_,rfl⟩;have hdv:(g:Int)∣n:=by rw[← hg];exact Int.gcd_dvd_left _ _
 exact(Int.tdiv_eq_ediv_of_dvd hdv).symm
def jS(n:Int)(d:Nat):List UInt8:=if d=1 then zl n else zl n ++ 47 :: Lib.decDigits d
theorem IG(q:Rat):ql q=jS q.num q.den:=rfl
theorem C5{n:Int}{d g:Nat}(hd:d≠0)(hg:Int.gcd n d=g):ql (mkRat n d)=jS (n.tdiv g) (d / g):=by
 rw[IG,(oh n d g hd hg).1,(oh n d g hd hg).2]
theorem mkRat_one(n:Int):mkRat n 1=(n:Rat):=Rat.ext (by rw[Rat.num_mkRat,if_neg af];simp) (by rw[Rat.den_mkRat,if_neg af];simp)
end Go.Proofs.YtmahadmefplbnaaGreatDoor
namespace Go.Proofs.YtmahadmefplbnaaGreatDoor
def bD:Nat->(Nat->Rat)->Rat
 | 0,_=>0
 | n+1,g=>bD n g+g n
theorem bN{n:Nat}{g h:Nat->Rat}(e:∀ j,j<n->g j=h j):bD n g=bD n h:=by
 induction n with
 | zero=>rfl
 | succ n ih=>rw[bD,bD,ih (fun j hj=>e j ae),e n ae]
theorem lh(n:Nat)(g h:Nat->Rat):bD n (fun j=>g j+h j)=bD n g+bD n h:=by
 induction n with
 | zero=>simp only[bD];grind
 | succ n ih=>simp only[bD,ih];grind
theorem dB(n:Nat)(k:Rat)(g:Nat->Rat):bD n (fun j=>k*g j)=k*bD n g:=by
 induction n with
 | zero=>simp only[bD];grind
 | succ n ih=>simp only[bD,ih];grind
theorem rh(n:Nat):bD n (fun _=>0)=0:=by
 induction n with
 | zero=>rfl
 | succ n ih=>simp only[bD,ih];grind
theorem cj{n:Nat}{g:Nat->Rat}(e:∀ j,j<n->g j=0):bD n g=0:=(bN e).trans (rh n)
theorem iB{n a:Nat}(ha:a<n)(g:Nat->Rat):bD n g=bD n (fun j=>if j=a then 0 else g j)+g a:=by
 induction n with
 | zero=>omega
 | succ n ih =>
  by_cases h:a=n
  ·subst h;have:bD a (fun j=>if j=a then 0 else g j)=bD a g:=bN (fun j hj=>if_neg ae);simp only[bD,this,if_true];grind
  ·have h2:=ih ae;have h3:(if n=a then(0:Rat) else g n)=g n:=if_neg ae;simp only[bD,h3];rw[h2];grind
theorem gZ{n a:Nat}(ha:a<n)(g:Nat->Rat)(h:∀ j,j<n->j≠a->g j=0):bD n g=g a:=by
 rw[iB ha,cj (fun j hj=>by by_cases e:j=a <;> simp[e];exact h j hj e)];grind
theorem Mu{n:Nat}{g h:Nat->Rat}(e:∀ j,j<n->g j<=h j):bD n g<=bD n h:=by
 induction n with
 | zero=>exact Rat.le_refl
 | succ n ih=>have h1:=ih (fun j hj=>e j ae);have h2:=e n ae;simp only[bD];grind
theorem qk{n:Nat}{g:Nat->Rat}(e:∀ j,j<n->0<=g j):0<=bD n g:=by
 have:=Mu (g:=fun _=>0) e;rwa[rh] at this
theorem FE{n:Nat}{g:Nat->Rat}(e:∀ j,j<n->g j<=0):bD n g<=0:=by
 have:=Mu (h:=fun _=>0) e;rwa[rh] at this
theorem Cx(n m:Nat)(g:Nat->Nat->Rat):bD n (fun i=>bD m (fun j=>g i j))=bD m (fun j=>bD n (fun i=>g i j)):=by
 induction n with
 | zero=>simp only[bD];rw[rh]
 | succ n ih=>simp only[bD,ih];rw[lh]
structure LP where
 n:Nat
 m:Nat
 A:Nat->Nat->Rat
 B:Nat->Rat
 C:Nat->Rat
def LP.val(P:LP)(x:Nat->Rat)(v:Nat):Rat:=if v<P.n then x v else P.B (v-P.n)-bD P.n (fun k=>P.A (v-P.n) k*x k)
def LP.obj(P:LP)(x:Nat->Rat):Rat:=bD P.n (fun k=>P.C k*x k)
structure bT where
 c:Nat->Rat
 f:Nat->Nat->Rat
 b:Nat->Nat
 o:Nat->Nat
 wc:Rat
 wf:Nat->Rat
structure iy(P:LP)(T:bT):Prop where
 line:∀ i,i<P.m->∀ x,P.val x (T.b i)=T.c i+bD P.n (fun j=>T.f i j*P.val x (T.o j))
 worth:∀ x,P.obj x=T.wc+bD P.n (fun j=>T.wf j*P.val x (T.o j))
 surj:∀ y:Nat->Rat,∃ x,∀ j,j<P.n->P.val x (T.o j)=y j
 bl:∀ i,i<P.m->T.b i<P.n+P.m
 ol:∀ j,j<P.n->T.o j<P.n+P.m
 binj:∀ i i',i<P.m->i'<P.m->T.b i=T.b i'->i=i'
 oinj:∀ j j',j<P.n->j'<P.n->T.o j=T.o j'->j=j'
 bo:∀ i j,i<P.m->j<P.n->T.b i≠T.o j
 all:∀ v,v<P.n+P.m->(∃ i,i<P.m/\T.b i=v)∨(∃ j,j<P.n/\T.o j=v)
def bT.sC(T:bT)(r a:Nat):Rat:=-T.c r / T.f r a
def bT.qX(T:bT)(r a j:Nat):Rat:=-(if j=a then -1 else T.f r j) / T.f r a
def bT.bu(T:bT)(r a:Nat):bT where
 c i:=if i=r then T.sC r a else T.c i+T.f i a*T.sC r a
 f i j:=if i=r then T.qX r a j else(if j=a then 0 else T.f i j)+T.f i a*T.qX r a j
 b i:=if i=r then T.o a else T.b i
 o j:=if j=a then T.b r else T.o j
 wc:=T.wc+T.wf a*T.sC r a
 wf j:=(if j=a then 0 else T.wf j)+T.wf a*T.qX r a j
def LP.first(P:LP):bT where
 c i:=P.B i
 f i j:=-P.A i j
 b i:=P.n+i
 o j:=j
 wc:=0
 wf j:=P.C j
theorem LP.zg(P:LP):iy P P.first where
 line i hi x:=by
  have h1:¬ P.n+i<P.n:=ae;have h2:P.n+i-P.n=i:=ae;have h3:bD P.n (fun j=>-P.A i j*P.val x j)=bD P.n (fun j=>(-1)*(P.A i j*x j)):=bN (fun j hj=>by simp only[LP.val,if_pos hj];grind);show P.val x (P.n+i)=P.B i+bD P.n (fun j=>-P.A i j*P.val x j);rw[h3,dB];simp only[LP.val,if_neg h1,h2];grind
 worth x:=by
  have h3:bD P.n (fun j=>P.C j*P.val x j)=bD P.n (fun j=>P.C j*x j):=bN (fun j hj=>by simp only[LP.val,if_pos hj]);show P.obj x=0+bD P.n (fun j=>P.C j*P.val x j);rw[h3];simp only[LP.obj];grind
 surj y:=⟨y,fun j hj=>by show P.val y j=y j;simp only[LP.val,if_pos hj]⟩
 bl i hi:=by show P.n+i<_;omega
 ol j hj:=by show j<_;omega
 binj i i' _ _ h:=by have:P.n+i=P.n+i':=h;omega
 oinj j j' _ _ h:=h
 bo i j hi hj:=by show P.n+i≠j;omega
 all v hv:=by
  by_cases h:v<P.n
  ·exact Or.inr ⟨v,h,rfl⟩
  ·exact Or.inl ⟨v-P.n,ae,by show P.n+(v-P.n)=v;omega⟩
section
variable {P:LP} {T:bT} {r a:Nat}
theorem YN(h:T.f r a≠0):T.qX r a a=1 / T.f r a:=by simp only[bT.qX,if_true];grind
theorem iy.Jw (h:iy P T) (hr:r<P.m) (ha:a<P.n) (hk:T.f r a≠0) (x:Nat->Rat) :
    P.val x (T.o a)=T.sC r a+bD P.n (fun j=>T.qX r a j*P.val x ((T.bu r a).o j)):=by
 have e:=h.line r hr x;rw[iB ha] at e ⊢;have h1:(fun j=>if j=a then(0:Rat) else T.qX r a j*P.val x ((T.bu r a).o j))=fun j=>(-1 / T.f r a)*(if j=a then 0 else T.f r j*P.val x (T.o j)):=by
  funext j
  by_cases hj:j=a
  ·simp[hj]
  ·simp only[bT.qX,bT.bu,if_neg hj];grind
 have h2:P.val x ((T.bu r a).o a)=P.val x (T.b r):=by simp[bT.bu]
 rw[h1,dB,h2,YN hk,bT.sC];generalize bD P.n (fun j=>if j=a then 0 else T.f r j*P.val x (T.o j))=S at *;rw[e];grind
theorem iy.Dd (h:iy P T) (hr:r<P.m) (ha:a<P.n) (hk:T.f r a≠0) (x:Nat->Rat) (c:Rat) (g:Nat->Rat) :
    c+bD P.n (fun j=>g j*P.val x (T.o j))=(c+g a*T.sC r a)+bD P.n (fun j=>((if j=a then 0 else g j)+g a*T.qX r a j)*P.val x ((T.bu r a).o j)):=by
 have e:=h.Jw hr ha hk x;have h1:(fun j=>((if j=a then 0 else g j)+g a*T.qX r a j)*P.val x ((T.bu r a).o j))=fun j=>(if j=a then 0 else g j*P.val x (T.o j))+g a*(T.qX r a j*P.val x ((T.bu r a).o j)):=by
  funext j
  by_cases hj:j=a
  ·simp only[if_pos hj];grind
  ·simp only[bT.bu,if_neg hj];grind
 rw[h1,lh,dB,iB ha];generalize bD P.n (fun j=>T.qX r a j*P.val x ((T.bu r a).o j))=S at *;generalize bD P.n (fun j=>if j=a then 0 else g j*P.val x (T.o j))=R at *;rw[e];grind
theorem iy.bu(h:iy P T)(hr:r<P.m)(ha:a<P.n)(hk:T.f r a≠0):iy P (T.bu r a) where
 line i hi x:=by
  by_cases px:i=r
  ·have e:=h.Jw hr ha hk x;simp only[bT.bu,if_pos px] at e ⊢;exact e
  ·have e:=h.Dd hr ha hk x (T.c i) (T.f i);rw[← h.line i hi x] at e;simp only[bT.bu,if_neg px] at e ⊢;exact e
 worth x:=by
  have e:=h.Dd hr ha hk x T.wc T.wf;rw[← h.worth x] at e;exact e
 surj y:=by
  obtain⟨x,hx⟩:=h.surj (fun j=>if j=a then(y a-T.c r-bD P.n (fun j=>if j=a then 0 else T.f r j*y j)) / T.f r a else y j);refine⟨x,fun j hj=>?_⟩;by_cases hja:j=a
  ·subst hja;have e:=h.line r hr x;rw[iB hj,hx j hj] at e;have h1:bD P.n (fun i=>if i=j then 0 else T.f r i*P.val x (T.o i))=bD P.n (fun i=>if i=j then 0 else T.f r i*y i):=bN (fun i hi=>by
    by_cases Gz:i=j
    ·simp[Gz]
    ·have:=hx i hi;simp only[if_neg Gz] at this ⊢;rw[this])
   rw[h1] at e;simp only[bT.bu,if_true] at e ⊢;rw[e];generalize bD P.n (fun i=>if i=j then 0 else T.f r i*y i)=S at *;grind
  ·have:=hx j hj;simp only[bT.bu,if_neg hja] at this ⊢;exact this
 bl i hi:=by
  simp only[bT.bu];split
  ·exact h.ol a ha
  ·exact h.bl i hi
 ol j hj:=by
  simp only[bT.bu];split
  ·exact h.bl r hr
  ·exact h.ol j hj
 binj i i' hi BZ e:=by
  simp only[bT.bu] at e;split at e <;> split at e
  ·omega
  ·exact absurd e.symm (h.bo _ _ BZ ha)
  ·exact absurd e (h.bo _ _ hi ha)
  ·exact h.binj _ _ hi BZ e
 oinj j j' hj hj' e:=by
  simp only[bT.bu] at e;split at e <;> split at e
  ·omega
  ·exact absurd e (h.bo _ _ hr hj')
  ·exact absurd e.symm (h.bo _ _ hr hj)
  ·exact h.oinj _ _ hj hj' e
 bo i j hi hj e:=by
  simp only[bT.bu] at e;split at e <;> split at e
  ·exact absurd e.symm (h.bo _ _ hr ha)
  ·rename_i h1 h2;exact h2 (h.oinj _ _ ha hj e).symm
  ·rename_i h1 h2;exact h1 (h.binj _ _ hi hr e)
  ·exact absurd e (h.bo _ _ hi hj)
 all v hv:=by
  rcases h.all v hv with⟨i,hi,e⟩|⟨j,hj,e⟩
  ·by_cases px:i=r
   ·exact Or.inr ⟨a,ha,by simp only[bT.bu,if_true];rw[← px];exact e⟩
   ·exact Or.inl ⟨i,hi,by simp only[bT.bu,if_neg px];exact e⟩
  ·by_cases hja:j=a
   ·exact Or.inl ⟨r,hr,by simp only[bT.bu,if_true];rw[← hja];exact e⟩
   ·exact Or.inr ⟨j,hj,by simp only[bT.bu,if_neg hja];exact e⟩
end
end Go.Proofs.YtmahadmefplbnaaGreatDoor
namespace Go.Proofs.YtmahadmefplbnaaGreatDoor
def qA(vs:Nat->Nat)(is:Nat->Bool):Nat->Int
 | 0=>-1
 | k+1=>if is k=true/\(qA vs is k<0∨vs k<vs (qA vs is k).toNat) then(k:Int) else qA vs is k
theorem oi (vs:Nat->Nat) (is:Nat->Bool) (k:Nat) :
    (qA vs is k=-1/\∀ i,i<k->is i=false)∨(∃ i,i<k/\qA vs is k=(i:Int)/\is i=true/\∀ j,j<k->is j=true->vs i<=vs j):=by
 induction k with
 | zero=>exact Or.inl ⟨rfl,fun i hi=>ae⟩
 | succ k ih =>
  rcases ih with⟨h1,h2⟩|⟨i,h1,h2,h3,h4⟩
  ·by_cases hk:is k=true
   ·refine Or.inr ⟨k,ae,?_,hk,fun j hj BY=>?_⟩
    ·rw[qA,if_pos ⟨hk,Or.inl ae⟩]
    ·by_cases yi:j=k
     ·rw[yi];exact Nat.le_refl _
     ·have:=h2 j ae;rw[this] at BY;cases BY
   ·refine Or.inl ⟨?_,fun i hi=>?_⟩
    ·rw[qA,if_neg (fun h=>hk h.1)];exact h1
    ·by_cases AW:i=k
     ·rw[AW];simpa using hk
     ·exact h2 i ae
  ·by_cases hk:is k=true/\vs k<vs i
   ·refine Or.inr ⟨k,ae,?_,hk.1,fun j hj BY=>?_⟩
    ·rw[qA,if_pos ⟨hk.1,Or.inr (by rw[h2];exact hk.2)⟩]
    ·by_cases yi:j=k
     ·rw[yi];exact Nat.le_refl _
     ·have:=h4 j ae BY;omega
   ·refine Or.inr ⟨i,ae,?_,h3,fun j hj BY=>?_⟩
    ·have hno:¬ (is k=true/\(qA vs is k<0∨vs k<vs (qA vs is k).toNat)):=fun h=>hk ⟨h.1,h.2.elim (fun h=>ae) (fun h=>by rwa[h2] at h)⟩
     rw[qA,if_neg hno];exact h2
    ·by_cases yi:j=k
     ·subst yi;have:¬ vs j<vs i:=fun h=>hk ⟨BY,h⟩;omega
     ·exact h4 j ae BY
theorem Nr:∀ (N:Nat) (g:Nat->Nat),(∀ k,g k<N)->∃ i j,i<j/\g i=g j
 | 0,g,h=>absurd (h 0) ae
 | N+1,g,h=>by
  rcases Classical.em (∃ i j,i<j/\g i=g j) with hp|hp
  ·exact hp
  ·have:∃ k0,∀ k,g (k0+k)<N:=by
    rcases Classical.em (∃ i,g i=N) with⟨i,hi⟩|hi
    ·refine⟨i+1,fun k=>?_⟩;have h1:=h (i+1+k);have h2:g (i+1+k)≠N:=fun e=>hp ⟨i,i+1+k,ae,by rw[hi,e]⟩
     omega
    ·refine⟨0,fun k=>?_⟩;have h1:=h (0+k);have h2:g (0+k)≠N:=fun e=>hi ⟨_,e⟩
     omega
   obtain⟨k0,hk⟩:=this;obtain⟨i,j,Gz,e⟩:=Nr N (fun k=>g (k0+k)) hk;exact⟨k0+i,k0+j,ae,e⟩
def enc(L:Nat)(g:Nat->Nat):Nat->Nat
 | 0=>0
 | k+1=>enc L g k*L+g k
theorem OZ{L:Nat}{g:Nat->Nat}:∀ k,(∀ i,i<k->g i<L)->enc L g k<L ^ k
 | 0,_=>by simp[enc]
 | k+1,h=>by
  have h1:=OZ k (fun i hi=>h i ae);have h2:=h k ae;have h3:(enc L g k+1)*L<=L ^ k*L:=Nat.mul_le_mul_right L h1;rw[enc,Nat.pow_succ];have h4:(enc L g k+1)*L=enc L g k*L+L:=by rw[Nat.add_mul,Nat.one_mul]
  omega
theorem Jp{L:Nat}{g g':Nat->Nat}:∀ k,(∀ i,i<k->g i<L)->(∀ i,i<k->g' i<L)->enc L g k=enc L g' k->∀ i,i<k->g i=g' i
 | 0,_,_,_,i,hi=>ae
 | k+1,h,h',e,i,hi=>by
  have a1:=h k ae;have a2:=h' k ae;have e1:enc L g k=enc L g' k:=by
   have h1:(enc L g k*L+g k) / L=enc L g k:=by rw[Nat.mul_comm,Nat.mul_add_div ae,Nat.div_eq_of_lt a1];omega
   have h2:(enc L g' k*L+g' k) / L=enc L g' k:=by rw[Nat.mul_comm,Nat.mul_add_div ae,Nat.div_eq_of_lt a2];omega
   simp only[enc] at e;rw[← h1,← h2,e]
  have e2:g k=g' k:=by simp only[enc,e1] at e;omega
  by_cases AW:i=k
  ·rw[AW];exact e2
  ·exact Jp k (fun i hi=>h i ae) (fun i hi=>h' i ae) e1 i ae
structure Seq(P:LP)(Q:Nat->bT)(r a:Nat->Nat):Prop where
 inv:∀ k,iy P (Q k)
 rl:∀ k,r k<P.m
 al:∀ k,a k<P.n
 nz:∀ k,(Q k).f (r k) (a k)≠0
 sb:∀ k,P.n<=(Q k).b (r k)
 so:∀ k,P.n<=(Q k).o (a k)
 next:∀ k,Q (k+1)=(Q k).bu (r k) (a k)
def qY(P:LP)(T:bT)(v:Nat):Prop:=∃ i,i<P.m/\T.b i=v
theorem iy.Nx{P:LP}{T:bT}(h:iy P T){v:Nat}(hv:v<P.n+P.m)(hb:¬ qY P T v):∃ j,j<P.n/\T.o j=v:=by
 rcases h.all v hv with⟨i,hi⟩|hj
 ·exact absurd ⟨i,hi⟩ hb
 ·exact hj
theorem iy.AD{P:LP}{T:bT}(h:iy P T){j:Nat}(hj:j<P.n):¬ qY P T (T.o j):=fun⟨i,hi,e⟩=>h.bo i j hi hj e
theorem stays{p:Nat->Prop}{i j:Nat}(h:∀ t,i<=t->t<j->¬ p t->¬ p (t+1))(hi:¬ p i):∀ d,i+d<=j->¬ p (i+d)
 | 0,_=>hi
 | d+1,hd=>h (i+d) ae ae (stays h hi d ae)
theorem Uy{p:Nat->Prop}{i j s:Nat}(hp:p i ↔ p j)(h1:i<=s)(h2:s<j)(h3:p s)(h4:¬ p (s+1)):∃ t,i<=t/\t<j/\¬ p t/\p (t+1):=by
 rcases Classical.em (∃ t,i<=t/\t<j/\¬ p t/\p (t+1)) with h|h
 ·exact h
 ·have hn:∀ t,i<=t->t<j->¬ p t->¬ p (t+1):=fun t a b c d=>h ⟨t,a,b,c,d⟩
  have hj:¬ p j:=by
   have:=stays (fun t a b=>hn t ae b) h4 (j-(s+1)) ae;rwa[show s+1+(j-(s+1))=j by omega] at this
  have hi:¬ p i:=fun x=>hj (hp.1 x)
  have:=stays hn hi (s-i) ae;rw[show i+(s-i)=s by omega] at this;exact absurd h3 this
theorem T0{p:Nat->Prop}{s t:Nat}(h:s<=t)(h1:¬ p s)(h2:p t):∃ k,s<=k/\k<t/\¬ p k/\p (k+1):=by
 rcases Classical.em (∃ k,s<=k/\k<t/\¬ p k/\p (k+1)) with h'|h'
 ·exact h'
 ·have:=stays (p:=p) (i:=s) (j:=t) (fun k a b c d=>h' ⟨k,a,b,c,d⟩) h1 (t-s) ae;rw[show s+(t-s)=t by omega] at this;exact absurd h2 this
theorem DM{p:Nat->Prop}:∀ N,(∃ v,v<N/\p v)->∃ v,v<N/\p v/\∀ q,q<N->p q->q<=v
 | 0,⟨v,hv,_⟩=>ae
 | N+1,⟨v,hv,hp⟩=>by
  rcases Classical.em (p N) with h|h
  ·exact⟨N,ae,h,fun q hq _=>ae⟩
  ·have hvN:v≠N:=fun e=>h (e▸hp)
   obtain⟨u,h1,h2,h3⟩:=DM N ⟨v,ae,hp⟩;refine⟨u,ae,h2,fun q hq hpq=>?_⟩;by_cases e:q=N
   ·rw[e] at hpq;exact absurd hpq h
   ·exact h3 q ae hpq
section
variable {P:LP} {Q:Nat->bT} {r a:Nat->Nat}
theorem Seq.down(S:Seq P Q r a){k v:Nat}(h1:qY P (Q k) v)(h2:¬ qY P (Q (k+1)) v):v=(Q k).b (r k):=by
 obtain⟨i,hi,e⟩:=h1;by_cases px:i=r k
 ·rw[← px];exact e.symm
 ·exact absurd ⟨i,hi,by rw[S.next k];simp only[bT.bu,if_neg px];exact e⟩ h2
theorem Seq.qfI(S:Seq P Q r a){k v:Nat}(h1:¬ qY P (Q k) v)(h2:qY P (Q (k+1)) v):v=(Q k).o (a k):=by
 obtain⟨i,hi,e⟩:=h2;rw[S.next k] at e;by_cases px:i=r k
 ·simp only[bT.bu,if_pos px] at e;exact e.symm
 ·simp only[bT.bu,if_neg px] at e;exact absurd ⟨i,hi,e⟩ h1
theorem Seq.leaves(S:Seq P Q r a)(k:Nat):qY P (Q k) ((Q k).b (r k))/\¬ qY P (Q (k+1)) ((Q k).b (r k)):=by
 refine⟨⟨r k,S.rl k,rfl⟩,fun⟨i,hi,e⟩=>?_⟩;rw[S.next k] at e;by_cases px:i=r k
 ·simp only[bT.bu,if_pos px] at e;exact(S.inv k).bo _ _ (S.rl k) (S.al k) e.symm
 ·simp only[bT.bu,if_neg px] at e;exact px ((S.inv k).binj _ _ hi (S.rl k) e)
theorem Seq.enters(S:Seq P Q r a)(k:Nat):¬ qY P (Q k) ((Q k).o (a k))/\qY P (Q (k+1)) ((Q k).o (a k)):=by
 refine⟨(S.inv k).AD (S.al k),⟨r k,S.rl k,?_⟩⟩;rw[S.next k];simp[bT.bu]
theorem Seq.UE (S:Seq P Q r a):∃ i j v s t,i<j/\(∀ q,q<P.n->(Q i).o q=(Q j).o q)/\i<=s/\s<j/\i<=t/\t<j/\v=(Q s).b (r s)/\v=(Q t).o (a t)/\P.n<=v /\
    ∀ q k l,i<=k->k<=j->i<=l->l<=j->qY P (Q k) q->¬ qY P (Q l) q->q<=v/\P.n<=q:=by
 obtain⟨i,j,Gz,e⟩:=Nr ((P.n+P.m) ^ (P.n+P.m)) (fun k=>enc (P.n+P.m) (fun q=>if q<P.m then(Q k).b q else(Q k).o (q-P.m)) (P.n+P.m))
  (fun k=>OZ _ (fun q hq=>by
   split
   ·exact(S.inv k).bl _ (by assumption)
   ·exact(S.inv k).ol _ ae))
 have hg:∀ k q,q<P.n+P.m->(if q<P.m then(Q k).b q else(Q k).o (q-P.m))<P.n+P.m:=fun k q hq=>by
  split
  ·exact(S.inv k).bl _ (by assumption)
  ·exact(S.inv k).ol _ ae
 have ei:=Jp _ (hg i) (hg j) e;have eb:∀ q,q<P.m->(Q i).b q=(Q j).b q:=fun q hq=>by have:=ei q ae;simpa only[if_pos hq] using this
 have eo:∀ q,q<P.n->(Q i).o q=(Q j).o q:=fun q hq=>by
  have:=ei (P.m+q) ae;simpa only[if_neg (show ¬ P.m+q<P.m by omega),show P.m+q-P.m=q by omega] using this
 have same:∀ v,qY P (Q i) v ↔ qY P (Q j) v:=fun v=>⟨fun⟨q,h1,h2⟩=>⟨q,h1,by rw[← eb q h1];exact h2⟩,fun⟨q,h1,h2⟩=>⟨q,h1,by rw[eb q h1];exact h2⟩⟩
 obtain⟨v,hv,⟨s,LS,SH,Ui⟩,nh⟩:=DM (p:=fun v=>∃ s,i<=s/\s<j/\v=(Q s).b (r s)) (P.n+P.m) ⟨_,(S.inv i).bl _ (S.rl i),i,Nat.le_refl _,Gz,rfl⟩;have qgk:∃ t,i<=t/\t<j/\v=(Q t).o (a t):=by
  have hl:=S.leaves s;rw[← Ui] at hl;obtain⟨t,h1,h2,h3,h4⟩:=Uy (p:=fun k=>qY P (Q k) v) (same v) LS SH hl.1 hl.2;exact⟨t,h1,h2,S.qfI h3 h4⟩
 obtain⟨t,I0,QN,Z8⟩:=qgk;refine⟨i,j,v,s,t,Gz,eo,LS,SH,I0,QN,Ui,Z8,by rw[Ui];exact S.sb s,?_⟩;intro q k l Uo eY hl1 hl2 hb hnb;have qhb:∃ s,i<=s/\s<j/\q=(Q s).b (r s):=by
  rcases Nat.lt_or_ge k l with hkl|hkl
  ·obtain⟨u,u1,u2,u3,u4⟩:=T0 (p:=fun k=>¬ qY P (Q k) q) (s:=k) (t:=l) ae (fun h=>h hb) hnb;exact⟨u,ae,ae,S.down (Classical.not_not.1 u3) u4⟩
  ·obtain⟨u,u1,u2,u3,u4⟩:=T0 (p:=fun k=>qY P (Q k) q) (s:=l) (t:=k) ae hnb hb;have hn:¬ ¬ qY P (Q (u+1)) q:=fun h=>h u4
   obtain⟨z,z1,z2,z3,z4⟩:=Uy (p:=fun k=>¬ qY P (Q k) q) (i:=i) (j:=j) (s:=u) (by rw[same q]) ae ae u3 hn;exact⟨z,z1,z2,S.down (Classical.not_not.1 z3) z4⟩
 obtain⟨z,z1,z2,z3⟩:=qhb;refine⟨nh q ?_ ⟨z,z1,z2,z3⟩,by rw[z3];exact S.sb z⟩;rw[z3];exact(S.inv z).bl _ (S.rl z)
theorem Hn (S:Seq P Q r a) (hc:∀ k,(Q k).c (r k)<0) (hf:∀ k,0<(Q k).f (r k) (a k)) (lr:∀ k i,i<P.m->P.n<=(Q k).b i->(Q k).c i<0->(Q k).b (r k)<=(Q k).b i)
    (la:∀ k j,j<P.n->P.n<=(Q k).o j->0<(Q k).f (r k) j->(Q k).o (a k)<=(Q k).o j):False:=by
 obtain⟨i,j,v,s,t,Gz,eo,LS,SH,I0,QN,Ui,Z8,hv,DH⟩:=S.UE;obtain⟨x,hx⟩:=(S.inv s).surj (fun _=>0);have zero:∀ q,q<P.n+P.m->¬ qY P (Q s) q->P.val x q=0:=fun q hq hb=>by
  obtain⟨w,h1,h2⟩:=(S.inv s).Nx hq hb;rw[← h2];exact hx w h1
 have const:∀ w,w<P.m->P.val x ((Q s).b w)=(Q s).c w:=fun w hw=>by
  rw[(S.inv s).line w hw x,cj (fun q hq=>by rw[hx q hq];grind)];grind
 have pos:∀ q,qY P (Q s) q->P.n<=q->q<v->0<=P.val x q:=fun q ⟨w,h1,h2⟩ hn hq=>by
  rw[← h2,const w h1];rcases Classical.em ((Q s).c w<0) with h|h
  ·have:=lr s w h1 ae h;omega
  ·grind
 have hl:=S.leaves t;have hu:=DH _ t (t+1) I0 ae ae ae hl.1 hl.2;have c8:(Q t).b (r t)≠v:=by rw[Z8];exact(S.inv t).bo _ _ (S.rl t) (S.al t)
 have SJ:0<=P.val x ((Q t).b (r t)):=by
  rcases Classical.em (qY P (Q s) ((Q t).b (r t))) with h|h
  ·exact pos _ h hu.2 ae
  ·rw[zero _ ((S.inv t).bl _ (S.rl t)) h];exact Rat.le_refl
 have DF:bD P.n (fun q=>(Q t).f (r t) q*P.val x ((Q t).o q))<=0:=by
  refine FE (fun q hq=>?_);rcases Classical.em (qY P (Q s) ((Q t).o q)) with h|h
  ·have hm:=DH _ s t LS ae I0 ae h ((S.inv t).AD hq);by_cases hqv:(Q t).o q=v
   ·have hqa:q=a t:=(S.inv t).oinj _ _ hq (S.al t) (by rw[hqv,Z8]);have h1:=hf t;have h2:=hc s;rw[hqv,Ui,const _ (S.rl s),hqa];have:=Rat.mul_pos h1 (show 0 < -(Q s).c (r s) by grind);grind
   ·have h1:¬ 0<(Q t).f (r t) q:=fun h'=>by have:=la t q hq hm.2 h';omega
    have h2:=pos _ h hm.2 ae;have h3:0<=-(Q t).f (r t) q:=by grind
    have:=Rat.mul_nonneg h3 h2;grind
  ·rw[zero _ ((S.inv t).ol _ hq) h];grind
 have e:=(S.inv t).line (r t) (S.rl t) x;have:=hc t;rw[e] at SJ;grind
theorem Ls (S:Seq P Q r a) (hc:∀ k i,i<P.m->P.n<=(Q k).b i->0<=(Q k).c i) (hw:∀ k,(Q k).wf (a k)<0) (hf:∀ k,(Q k).f (r k) (a k)<0)
    (la:∀ k j,j<P.n->P.n<=(Q k).o j->(Q k).wf j<0->(Q k).o (a k)<=(Q k).o j)
    (lr:∀ k i,i<P.m->P.n<=(Q k).b i->(Q k).f i (a k)<0->(Q k).c (r k) / (-(Q k).f (r k) (a k))=(Q k).c i / (-(Q k).f i (a k))->(Q k).b (r k)<=(Q k).b i):False:=by
 obtain⟨i,j,v,s,t,Gz,eo,LS,SH,I0,QN,Ui,Z8,hv,DH⟩:=S.UE
 -- the worth does not grow
 have Ur:∀ k,0<=(Q k).sC (r k) (a k):=fun k=>by
  have h1:=hc k (r k) (S.rl k) (S.sb k);have h2:=hf k;have h3:0<=(-(Q k).f (r k) (a k))⁻¹:=Rat.le_of_lt (Rat.inv_pos.2 (by grind));have h4:=Rat.mul_nonneg h1 h3;have h5:(Q k).sC (r k) (a k)=(Q k).c (r k)*(-(Q k).f (r k) (a k))⁻¹:=by simp only[bT.sC];grind
  rw[h5];exact h4
 have qa9:∀ k,(Q (k+1)).wc<=(Q k).wc:=fun k=>by
  have h1:(Q (k+1)).wc=(Q k).wc+(Q k).wf (a k)*(Q k).sC (r k) (a k):=by rw[S.next k];rfl
  have h2:=Rat.mul_nonneg (show 0<=-(Q k).wf (a k) by have:=hw k;grind) (Ur k);grind
 have mono:∀ d k,(Q (k+d)).wc<=(Q k).wc:=fun d=>by
  induction d with
  | zero=>intro k;exact Rat.le_refl
  | succ d ih=>intro k;exact Rat.le_trans (qa9 (k+d)) (ih k)
 have qjE:(Q i).wc=(Q j).wc:=by
  obtain⟨x,hx⟩:=(S.inv i).surj (fun _=>0);have e1:=(S.inv i).worth x;have e2:=(S.inv j).worth x;rw[cj (fun q hq=>by rw[hx q hq];grind)] at e1;rw[cj (fun q hq=>by rw[← eo q hq,hx q hq];grind)] at e2;grind
 have pS:∀ k,i<=k->k<=j->(Q k).wc=(Q i).wc:=fun k h1 h2=>by
  have e1:=mono (k-i) i;have e2:=mono (j-k) k;rw[show i+(k-i)=k by omega] at e1;rw[show k+(j-k)=j by omega] at e2;grind
 have hzero:∀ k,i<=k->k<j->(Q k).sC (r k) (a k)=0:=fun k h1 h2=>by
  have e1:=pS k h1 ae;have e2:=pS (k+1) ae ae;have e3:(Q (k+1)).wc=(Q k).wc+(Q k).wf (a k)*(Q k).sC (r k) (a k):=by rw[S.next k];rfl
  have e4:(Q k).wf (a k)*(Q k).sC (r k) (a k)=0:=by grind
  have e5:=hw k;rcases Rat.mul_eq_zero.1 e4 with h|h
  ·grind
  ·exact h
 have hcz:∀ k,i<=k->k<j->(Q k).c (r k)=0:=fun k h1 h2=>by
  have e1:=hzero k h1 h2;have e2:=S.nz k;simp only[bT.sC] at e1;grind
 -- one point serves all tableaus of the round
 obtain⟨x,hx⟩:=(S.inv i).surj (fun _=>0);have hpt:∀ d,i+d<=j->∀ q,q<P.n->P.val x ((Q (i+d)).o q)=0:=fun d=>by
  induction d with
  | zero=>intro _ q hq;exact hx q hq
  | succ d ih =>
   intro hd q hq;have h0:=ih ae;rw[show i+(d+1)=i+d+1 by omega,S.next (i+d)];simp only[bT.bu];split
   ·rw[(S.inv (i+d)).line _ (S.rl _) x,cj (fun q hq=>by rw[h0 q hq];grind),hcz (i+d) ae ae];grind
   ·exact h0 q hq
 have hxs:∀ q,q<P.n->P.val x ((Q s).o q)=0:=by have:=hpt (s-i) ae;rwa[show i+(s-i)=s by omega] at this
 have hxt:∀ q,q<P.n->P.val x ((Q t).o q)=0:=by have:=hpt (t-i) ae;rwa[show i+(t-i)=t by omega] at this
 have const:∀ w,w<P.m->P.val x ((Q s).b w)=(Q s).c w:=fun w hw=>by
  rw[(S.inv s).line w hw x,cj (fun q hq=>by rw[hxs q hq];grind)];grind
 -- along the entering variable of the tableau at which v leaves the worth Jn
 obtain⟨y,hy⟩:=(S.inv s).surj (fun q=>if q=a s then 1 else 0);have cy:∀ w,w<P.m->P.val y ((Q s).b w)=(Q s).c w+(Q s).f w (a s):=fun w hw=>by
  rw[(S.inv s).line w hw y,gZ (S.al s) _ (fun q hq c8=>by rw[hy q hq,if_neg c8];grind),hy _ (S.al s),if_pos rfl];grind
 have w1:P.obj y=(Q s).wc+(Q s).wf (a s):=by
  rw[(S.inv s).worth y,gZ (S.al s) _ (fun q hq c8=>by rw[hy q hq,if_neg c8];grind),hy _ (S.al s),if_pos rfl];grind
 have w2:=(S.inv t).worth y;have hen:=S.enters s;have DF:0<=bD P.n (fun q=>(Q t).wf q*P.val y ((Q t).o q)):=by
  refine qk (fun q hq=>?_);rcases Classical.em (qY P (Q s) ((Q t).o q)) with⟨w,Gq,LR⟩|h
  ·have hm:=DH _ s t LS ae I0 ae ⟨w,Gq,LR⟩ ((S.inv t).AD hq);have I6:(Q s).c w=0:=by rw[← const w Gq,LR];exact hxt q hq
   rw[← LR,cy w Gq,I6];by_cases hqv:(Q t).o q=v
   ·have hqa:q=a t:=(S.inv t).oinj _ _ hq (S.al t) (by rw[hqv,Z8]);have hwr:w=r s:=(S.inv s).binj _ _ Gq (S.rl s) (by rw[LR,hqv,Ui]);have h1:=hw t;have h2:=hf s;rw[hqa,hwr];have:=Rat.mul_pos (show 0 < -(Q t).wf (a t) by grind) (show 0 < -(Q s).f (r s) (a s) by grind);grind
   ·have h1:¬ (Q t).wf q<0:=fun h'=>by have:=la t q hq hm.2 h';omega
    have h2:¬ (Q s).f w (a s)<0:=fun h'=>by
     have:=lr s w Gq ae h' (by rw[I6,hcz s LS SH];grind);omega
    have:=Rat.mul_nonneg (show 0<=(Q t).wf q by grind) (show 0<=(Q s).f w (a s) by grind);grind
  ·obtain⟨w,Gq,LR⟩:=(S.inv s).Nx ((S.inv t).ol q hq) h;rw[← LR,hy w Gq];by_cases hwa:w=a s
   ·have hm:=DH _ (s+1) s ae ae LS ae hen.2 hen.1;have c8:(Q s).o (a s)≠v:=by rw[Ui];exact fun h=>(S.inv s).bo _ _ (S.rl s) (S.al s) h.symm
    rw[hwa] at LR;have h1:¬ (Q t).wf q<0:=fun h'=>by have:=la t q hq ae h';omega
    rw[if_pos hwa];grind
   ·rw[if_neg hwa];grind
 have e1:=pS s LS ae;have e2:=pS t I0 ae;have e3:=hw s;grind
end
end Go.Proofs.YtmahadmefplbnaaGreatDoor
namespace Go.Proofs.YtmahadmefplbnaaGreatDoor
def LP.qp(P:LP)(T:bT):Int:=qA T.b (fun i=>decide (P.n<=T.b i) && decide (T.c i<0)) P.m
def LP.LX(P:LP)(T:bT)(r:Nat):Int:=qA T.o (fun j=>decide (P.n<=T.o j) && decide (0<T.f r j)) P.n
def LP.kC(P:LP)(T:bT):bT:=if P.qp T<0∨P.LX T (P.qp T).toNat<0 then T else T.bu (P.qp T).toNat (P.LX T (P.qp T).toNat).toNat
def LP.oz(P:LP)(T:bT):Prop:=P.qp T<0∨P.LX T (P.qp T).toNat<0
def LP.atU(P:LP)(T:bT):Int:=qA T.o (fun j=>!decide (P.n<=T.o j) && decide (T.wf j≠0)) P.n
def LP.Ho(P:LP)(T:bT):Int:=qA T.o (fun j=>decide (P.n<=T.o j) && decide (T.wf j<0)) P.n
def bT.ratio(T:bT)(a i:Nat):Rat:=T.c i / (-(T.f i a))
def LP.lv(P:LP)(T:bT)(a:Nat):Nat->Int
 | 0=>-1
 | k+1=>if ¬ P.n<=T.b k∨0<=T.f k a then P.lv T a k
  else if 0<=P.lv T a k/\(T.ratio a (P.lv T a k).toNat<T.ratio a k∨T.ratio a (P.lv T a k).toNat=T.ratio a k/\T.b (P.lv T a k).toNat<T.b k) then P.lv T a k else(k:Int)
def LP.kB(P:LP)(T:bT):bT:=if P.Ho T<0∨P.lv T (P.Ho T).toNat P.m<0 then T else T.bu (P.lv T (P.Ho T).toNat P.m).toNat (P.Ho T).toNat
def LP.oy(P:LP)(T:bT):Prop:=P.Ho T<0∨P.lv T (P.Ho T).toNat P.m<0
def wH(s:bT->bT):Nat->bT->bT
 | 0,T=>T
 | k+1,T=>s (wH s k T)
def zN(P:LP)(T:bT):Prop:=∀ j,j<P.n->T.o j<P.n->∀ i,i<P.m->P.n<=T.b i->T.f i j=0
def WZ(P:LP)(T:bT):Prop:=∀ j,j<P.n->T.o j<P.n->T.wf j=0
def Pos(P:LP)(T:bT):Prop:=∀ i,i<P.m->P.n<=T.b i->0<=T.c i
theorem uz (P:LP) (T:bT) (a:Nat) (k:Nat) :
    (P.lv T a k=-1/\∀ i,i<k->P.n<=T.b i->0<=T.f i a) ∨
    (∃ i,i<k/\P.lv T a k=(i:Int)/\P.n<=T.b i/\T.f i a<0/\∀ j,j<k->P.n<=T.b j->T.f j a<0->T.ratio a i<T.ratio a j∨(T.ratio a i=T.ratio a j/\T.b i<=T.b j)):=by
 induction k with
 | zero=>exact Or.inl ⟨rfl,fun i hi=>ae⟩
 | succ k ih =>
  by_cases hs:¬ P.n<=T.b k∨0<=T.f k a
  ·rw[LP.lv,if_pos hs];rcases ih with⟨h1,h2⟩|⟨i,h1,h2,h3,h4,h5⟩
   ·refine Or.inl ⟨h1,fun i hi hn=>?_⟩;by_cases AW:i=k
    ·subst AW;rcases hs with hs|hs
     ·exact absurd hn hs
     ·exact hs
    ·exact h2 i ae hn
   ·refine Or.inr ⟨i,ae,h2,h3,h4,fun j hj hn hf=>?_⟩;by_cases yi:j=k
    ·subst yi;rcases hs with hs|hs
     ·exact absurd hn hs
     ·exact absurd hf (by grind)
    ·exact h5 j ae hn hf
  ·rw[LP.lv,if_neg hs];have hn:P.n<=T.b k:=Classical.not_not.1 (fun h=>hs (Or.inl h));have hf:T.f k a<0:=by have:¬ 0<=T.f k a:=fun h=>hs (Or.inr h);grind
   rcases ih with⟨h1,h2⟩|⟨i,h1,h2,h3,h4,h5⟩
   ·rw[h1,if_neg (by simp)];refine Or.inr ⟨k,ae,rfl,hn,hf,fun j hj mf hf'=>?_⟩;by_cases yi:j=k
    ·subst yi;exact Or.inr ⟨rfl,Nat.le_refl _⟩
    ·have:=h2 j ae mf;exact absurd hf' (by grind)
   ·rw[h2];have e:((i:Int)).toNat=i:=Int.toNat_natCast i;rw[e];by_cases hc:T.ratio a i<T.ratio a k∨T.ratio a i=T.ratio a k/\T.b i<T.b k
    ·rw[if_pos ⟨ae,hc⟩];refine Or.inr ⟨i,ae,rfl,h3,h4,fun j hj mf hf'=>?_⟩;by_cases yi:j=k
     ·subst yi;rcases hc with hc|hc
      ·exact Or.inl hc
      ·exact Or.inr ⟨hc.1,ae⟩
     ·exact h5 j ae mf hf'
    ·rw[if_neg (fun h=>hc h.2)];refine Or.inr ⟨k,ae,rfl,hn,hf,fun j hj mf hf'=>?_⟩;have c1:¬ T.ratio a i<T.ratio a k:=fun h=>hc (Or.inl h)
     have c2:¬ (T.ratio a i=T.ratio a k/\T.b i<T.b k):=fun h=>hc (Or.inr h)
     by_cases yi:j=k
     ·subst yi;exact Or.inr ⟨rfl,Nat.le_refl _⟩
     ·rcases h5 j ae mf hf' with h|h
      ·exact Or.inl (by grind)
      ·rcases Classical.em (T.ratio a i=T.ratio a k) with he|he
       ·have:¬ T.b i<T.b k:=fun h=>c2 ⟨he,h⟩
        exact Or.inr ⟨by rw[← he];exact h.1,ae⟩
       ·exact Or.inl (by grind)
section
variable {P:LP} {T:bT}
theorem sM(P:LP)(T:bT):(P.qp T=-1/\Pos P T)∨∃ r,r<P.m/\P.qp T=(r:Int)/\P.n<=T.b r/\T.c r<0/\∀ i,i<P.m->P.n<=T.b i->T.c i<0->T.b r<=T.b i:=by
 rcases oi T.b (fun i=>decide (P.n<=T.b i) && decide (T.c i<0)) P.m with⟨h1,h2⟩|⟨i,h1,h2,h3,h4⟩
 ·refine Or.inl ⟨h1,fun i hi hn=>?_⟩;have:=h2 i hi;simp only[Bool.and_eq_false_iff,decide_eq_false_iff_not] at this;rcases this with h|h
  ·exact absurd hn h
  ·grind
 ·simp only[Bool.and_eq_true,decide_eq_true_eq] at h3 h4;exact Or.inr ⟨i,h1,h2,h3.1,h3.2,fun j hj a b=>h4 j hj ⟨a,b⟩⟩
theorem xB(P:LP)(T:bT)(r:Nat):(P.LX T r=-1/\∀ j,j<P.n->P.n<=T.o j->T.f r j<=0)∨∃ a,a<P.n/\P.LX T r=(a:Int)/\P.n<=T.o a/\0<T.f r a/\∀ j,j<P.n->P.n<=T.o j->0<T.f r j->T.o a<=T.o j:=by
 rcases oi T.o (fun j=>decide (P.n<=T.o j) && decide (0<T.f r j)) P.n with⟨h1,h2⟩|⟨i,h1,h2,h3,h4⟩
 ·refine Or.inl ⟨h1,fun i hi hn=>?_⟩;have:=h2 i hi;simp only[Bool.and_eq_false_iff,decide_eq_false_iff_not] at this;rcases this with h|h
  ·exact absurd hn h
  ·grind
 ·simp only[Bool.and_eq_true,decide_eq_true_eq] at h3 h4;exact Or.inr ⟨i,h1,h2,h3.1,h3.2,fun j hj a b=>h4 j hj ⟨a,b⟩⟩
theorem xA(P:LP)(T:bT):(P.Ho T=-1/\∀ j,j<P.n->P.n<=T.o j->0<=T.wf j)∨∃ a,a<P.n/\P.Ho T=(a:Int)/\P.n<=T.o a/\T.wf a<0/\∀ j,j<P.n->P.n<=T.o j->T.wf j<0->T.o a<=T.o j:=by
 rcases oi T.o (fun j=>decide (P.n<=T.o j) && decide (T.wf j<0)) P.n with⟨h1,h2⟩|⟨i,h1,h2,h3,h4⟩
 ·refine Or.inl ⟨h1,fun i hi hn=>?_⟩;have:=h2 i hi;simp only[Bool.and_eq_false_iff,decide_eq_false_iff_not] at this;rcases this with h|h
  ·exact absurd hn h
  ·grind
 ·simp only[Bool.and_eq_true,decide_eq_true_eq] at h3 h4;exact Or.inr ⟨i,h1,h2,h3.1,h3.2,fun j hj a b=>h4 j hj ⟨a,b⟩⟩
theorem EI(P:LP)(T:bT):(P.atU T=-1/\WZ P T)∨∃ a,a<P.n/\P.atU T=(a:Int)/\T.o a<P.n/\T.wf a≠0:=by
 rcases oi T.o (fun j=>!decide (P.n<=T.o j) && decide (T.wf j≠0)) P.n with⟨h1,h2⟩|⟨i,h1,h2,h3,h4⟩
 ·refine Or.inl ⟨h1,fun i hi hn=>?_⟩;have:=h2 i hi;simp only[Bool.and_eq_false_iff,decide_eq_false_iff_not,Bool.not_eq_false',decide_eq_true_eq] at this;rcases this with h|h
  ·omega
  ·exact Classical.not_not.1 h
 ·simp only[Bool.and_eq_true,decide_eq_true_eq,Bool.not_eq_true',decide_eq_false_iff_not] at h3;exact Or.inr ⟨i,h1,h2,ae,h3.2⟩
theorem zN.bu(h:zN P T)(hI:iy P T){r a:Nat}(hr:r<P.m)(ha:a<P.n)(hs:P.n<=T.b r)(hk:T.f r a≠0):zN P (T.bu r a):=by
 intro j hj E7 i hi hb;by_cases hja:j=a
 ·simp only[bT.bu,if_pos hja] at E7;omega
 ·simp only[bT.bu,if_neg hja] at E7;have hz:T.f r j=0:=h j hj E7 r hr hs;by_cases px:i=r
  ·simp only[bT.bu,if_pos px,bT.qX,if_neg hja,hz];grind
  ·simp only[bT.bu,if_neg px] at hb;have jh:T.f i j=0:=h j hj E7 i hi hb;simp only[bT.bu,if_neg px,if_neg hja,bT.qX,hz,jh];grind
theorem WZ.bu(h:WZ P T)(hz:zN P T){r a:Nat}(hr:r<P.m)(hs:P.n<=T.b r):WZ P (T.bu r a):=by
 intro j hj E7;by_cases hja:j=a
 ·simp only[bT.bu,if_pos hja] at E7;omega
 ·simp only[bT.bu,if_neg hja] at E7;have h1:T.f r j=0:=hz j hj E7 r hr hs;have h2:T.wf j=0:=h j hj E7;simp only[bT.bu,if_neg hja,bT.qX,h1,h2];grind
theorem Cv (hr:¬ P.oz T):∃ r a,r<P.m/\a<P.n/\P.qp T=(r:Int)/\P.LX T r=(a:Int)/\P.kC T=T.bu r a/\P.n<=T.b r/\P.n<=T.o a/\T.c r<0/\0<T.f r a /\
    (∀ i,i<P.m->P.n<=T.b i->T.c i<0->T.b r<=T.b i)/\(∀ j,j<P.n->P.n<=T.o j->0<T.f r j->T.o a<=T.o j):=by
 rcases sM P T with⟨h1,h2⟩|⟨r,h1,h2,h3,h4,h5⟩
 ·exact absurd (Or.inl ae) hr
 ·rcases xB P T r with⟨g1,g2⟩|⟨a,g1,g2,g3,g4,g5⟩
  ·exact absurd (Or.inr (by rw[h2,Int.toNat_natCast];omega)) hr
  ·refine⟨r,a,h1,g1,h2,g2,?_,h3,g3,h4,g4,h5,g5⟩;unfold LP.kC;unfold LP.oz at hr;rw[if_neg hr,h2,Int.toNat_natCast,g2,Int.toNat_natCast]
theorem Cu (hr:¬ P.oy T):∃ r a,r<P.m/\a<P.n/\P.lv T a P.m=(r:Int)/\P.Ho T=(a:Int)/\P.kB T=T.bu r a/\P.n<=T.b r/\P.n<=T.o a/\T.f r a<0/\T.wf a<0 /\
    (∀ j,j<P.n->P.n<=T.o j->T.wf j<0->T.o a<=T.o j)/\(∀ j,j<P.m->P.n<=T.b j->T.f j a<0->T.ratio a r<T.ratio a j∨(T.ratio a r=T.ratio a j/\T.b r<=T.b j)):=by
 rcases xA P T with⟨h1,h2⟩|⟨a,h1,h2,h3,h4,h5⟩
 ·exact absurd (Or.inl ae) hr
 ·rcases uz P T a P.m with⟨g1,g2⟩|⟨r,g1,g2,g3,g4,g5⟩
  ·exact absurd (Or.inr (by rw[h2,Int.toNat_natCast];omega)) hr
  ·refine⟨r,a,g1,h1,g2,h2,?_,g3,h3,g4,h4,h5,g5⟩;unfold LP.kB;unfold LP.oy at hr;rw[if_neg hr,h2,Int.toNat_natCast,g2,Int.toNat_natCast]
theorem vC(hr:P.oz T):P.kC T=T:=if_pos hr
theorem vB(hr:P.oy T):P.kB T=T:=if_pos hr
structure Good(P:LP)(T:bT):Prop where
 inv:iy P T
 fz:zN P T
theorem Good.kC(h:Good P T):Good P (P.kC T):=by
 rcases Classical.em (P.oz T) with hh|hh
 ·rw[vC hh];exact h
 ·obtain⟨r,a,h1,h2,_,_,h3,h4,h5,h6,h7,_⟩:=Cv hh;rw[h3];have hk:T.f r a≠0:=by grind
  exact⟨h.inv.bu h1 h2 hk,h.fz.bu h.inv h1 h2 h4 hk⟩
theorem Good.itF(h:Good P T):∀ k,Good P (wH P.kC k T)
 | 0=>h
 | k+1=>(Good.itF h k).kC
structure kg(P:LP)(T:bT):Prop where
 inv:iy P T
 fz:zN P T
 wz:WZ P T
 pos:Pos P T
theorem kg.kB(h:kg P T):kg P (P.kB T):=by
 rcases Classical.em (P.oy T) with hh|hh
 ·rw[vB hh];exact h
 ·obtain⟨r,a,h1,h2,_,_,h3,h4,h5,h6,h7,h8,h9⟩:=Cu hh;rw[h3];have hk:T.f r a≠0:=by grind
  refine⟨h.inv.bu h1 h2 hk,h.fz.bu h.inv h1 h2 h4 hk,h.wz.bu h.fz h1 h4,?_⟩;have Ov:=h.pos r h1 h4;have hinv:0<(-T.f r a)⁻¹:=Rat.inv_pos.2 (by grind);have XP:T.sC r a=T.c r*(-T.f r a)⁻¹:=by simp only[bT.sC];grind
  have fp:0<=T.sC r a:=by rw[XP];exact Rat.mul_nonneg Ov (Rat.le_of_lt hinv)
  intro i hi hb;by_cases px:i=r
  ·simp only[bT.bu,if_pos px];exact fp
  ·simp only[bT.bu,if_neg px] at hb ⊢;have hci:=h.pos i hi hb;rcases Classical.em (T.f i a<0) with hf|hf
   ·have qgl:T.ratio a r<=T.ratio a i:=by
     rcases h9 i hi hb hf with h'|h'
     ·exact Rat.le_of_lt h'
     ·rw[h'.1];exact Rat.le_refl
    have e1:T.ratio a r=T.sC r a:=by rw[XP];simp only[bT.ratio];grind
    have e2:=Rat.mul_le_mul_of_nonneg_left qgl (show 0<=-T.f i a by grind);have e3:-T.f i a*T.ratio a i=T.c i:=by simp only[bT.ratio];grind
    rw[e1,e3] at e2;grind
   ·have:=Rat.mul_nonneg (show 0<=T.f i a by grind) fp;grind
theorem kg.itM(h:kg P T):∀ k,kg P (wH P.kB k T)
 | 0=>h
 | k+1=>(kg.itM h k).kB
theorem Lg(h:Good P T):∃ N,P.oz (wH P.kC N T):=by
 rcases Classical.em (∃ N,P.oz (wH P.kC N T)) with hh|hh
 ·exact hh
 ·exfalso;have hn:∀ k,¬ P.oz (wH P.kC k T):=fun k h=>hh ⟨k,h⟩
  obtain⟨r,hr⟩:=Classical.axiomOfChoice (fun k=>Cv (hn k));obtain⟨a,ha⟩:=Classical.axiomOfChoice hr;exact Hn (Q:=fun k=>wH P.kC k T) (r:=r) (a:=a)
   ⟨fun k=>(h.itF k).inv,fun k=>(ha k).1,fun k=>(ha k).2.1,fun k=>by have:=(ha k).2.2.2.2.2.2.2.2.1;grind,fun k=>(ha k).2.2.2.2.2.1,fun k=>(ha k).2.2.2.2.2.2.1,fun k=>(ha k).2.2.2.2.1⟩
   (fun k=>(ha k).2.2.2.2.2.2.2.1) (fun k=>(ha k).2.2.2.2.2.2.2.2.1) (fun k=>(ha k).2.2.2.2.2.2.2.2.2.1) (fun k=>(ha k).2.2.2.2.2.2.2.2.2.2)
theorem NH(h:kg P T):∃ N,P.oy (wH P.kB N T):=by
 rcases Classical.em (∃ N,P.oy (wH P.kB N T)) with hh|hh
 ·exact hh
 ·exfalso;have hn:∀ k,¬ P.oy (wH P.kB k T):=fun k h=>hh ⟨k,h⟩
  obtain⟨r,hr⟩:=Classical.axiomOfChoice (fun k=>Cu (hn k));obtain⟨a,ha⟩:=Classical.axiomOfChoice hr;exact Ls (Q:=fun k=>wH P.kB k T) (r:=r) (a:=a)
   ⟨fun k=>(h.itM k).inv,fun k=>(ha k).1,fun k=>(ha k).2.1,fun k=>by have:=(ha k).2.2.2.2.2.2.2.1;grind,fun k=>(ha k).2.2.2.2.2.1,fun k=>(ha k).2.2.2.2.2.2.1,fun k=>(ha k).2.2.2.2.1⟩
   (fun k=>(h.itM k).pos) (fun k=>(ha k).2.2.2.2.2.2.2.2.1) (fun k=>(ha k).2.2.2.2.2.2.2.1) (fun k=>(ha k).2.2.2.2.2.2.2.2.2.1)
   (fun k i hi hb hf e=>by
    rcases (ha k).2.2.2.2.2.2.2.2.2.2 i hi hb hf with h'|h'
    ·simp only[bT.ratio] at h';grind
    ·exact h'.2)
end
end Go.Proofs.YtmahadmefplbnaaGreatDoor
namespace Go.Proofs.YtmahadmefplbnaaGreatDoor
def LP.rs(P:LP)(T:bT)(k:Nat):Nat->Int
 | 0=>-1
 | i+1=>if 0<=P.rs T k i then P.rs T k i else if T.f i k≠0/\P.n<=T.b i then(i:Int) else -1
theorem Iy(P:LP)(T:bT)(k:Nat)(i:Nat):(P.rs T k i=-1/\∀ w,w<i->P.n<=T.b w->T.f w k=0)∨∃ r,r<i/\P.rs T k i=(r:Int)/\T.f r k≠0/\P.n<=T.b r:=by
 induction i with
 | zero=>exact Or.inl ⟨rfl,fun w hw=>ae⟩
 | succ i ih =>
  rcases ih with⟨h1,h2⟩|⟨r,h1,h2,h3,h4⟩
  ·by_cases hc:T.f i k≠0/\P.n<=T.b i
   ·exact Or.inr ⟨i,ae,by rw[LP.rs,if_neg ae,if_pos hc],hc.1,hc.2⟩
   ·refine Or.inl ⟨by rw[LP.rs,if_neg ae,if_neg hc],fun w hw hn=>?_⟩;by_cases hwi:w=i
    ·subst hwi;exact Classical.not_not.1 (fun h=>hc ⟨h,hn⟩)
    ·exact h2 w ae hn
  ·exact Or.inr ⟨r,ae,by rw[LP.rs,if_pos ae];exact h2,h3,h4⟩
def LP.CV(P:LP)(T:bT)(k:Nat):bT:=if P.rs T k P.m<0 then T else T.bu (P.rs T k P.m).toNat k
def LP.rel(P:LP)(T:bT):Nat->bT
 | 0=>T
 | k+1=>P.CV (P.rel T k) k
structure xD(P:LP)(T:bT)(k:Nat):Prop where
 inv:iy P T
 rest:∀ j,j<P.n->k<=j->T.o j=j
 fz:∀ j,j<k->j<P.n->T.o j<P.n->∀ i,i<P.m->P.n<=T.b i->T.f i j=0
theorem xD.step{P:LP}{T:bT}{k:Nat}(h:xD P T k)(hk:k<P.n):xD P (P.CV T k) (k+1):=by
 rcases Iy P T k P.m with⟨h1,h2⟩|⟨r,h1,h2,h3,h4⟩
 ·rw[LP.CV,if_pos ae];refine⟨h.inv,fun j hj Oj=>h.rest j hj ae,fun j hj rT E7 i hi hb=>?_⟩;by_cases yi:j=k
  ·subst yi;exact h2 i hi hb
  ·exact h.fz j ae rT E7 i hi hb
 ·rw[LP.CV,if_neg ae,h2,Int.toNat_natCast];refine⟨h.inv.bu h1 hk h3,fun j hj Oj=>?_,fun j hj rT E7 i hi hb=>?_⟩
  ·simp only[bT.bu,if_neg (show ¬ j=k by omega)];exact h.rest j hj ae
  ·have yi:¬ j=k:=fun e=>by simp only[bT.bu,if_pos e] at E7;omega
   simp only[bT.bu,if_neg yi] at E7;have hz:T.f r j=0:=h.fz j ae rT E7 r h1 h4;by_cases px:i=r
   ·simp only[bT.bu,if_pos px] at hb;rw[h.rest k hk (Nat.le_refl _)] at hb;omega
   ·simp only[bT.bu,if_neg px] at hb;have jh:T.f i j=0:=h.fz j ae rT E7 i hi hb;simp only[bT.bu,if_neg px,if_neg yi,bT.qX,hz,jh];grind
theorem xD.all{P:LP}{T:bT}(h:xD P T 0):∀ k,k<=P.n->xD P (P.rel T k) k
 | 0,_=>h
 | k+1,hk=>(xD.all h k ae).step ae
theorem M0(P:LP):Good P (P.rel P.first P.n):=by
 have h:=xD.all (P:=P) (T:=P.first) ⟨P.zg,fun j hj _=>rfl,fun j hj=>ae⟩ P.n (Nat.le_refl _);exact⟨h.inv,fun j hj=>h.fz j hj hj⟩
def LP.dl(P:LP)(T:bT)(g:Nat->Rat):Nat->Nat->Rat
 | 0,_=>0
 | k+1,i=>if T.o k=P.n+i then g k else P.dl T g k i
def LP.pt(P:LP)(T:bT):Nat->Nat->Rat
 | 0,_=>0
 | i+1,v=>if T.b i=v then T.c i else P.pt T i v
def LP.ry(P:LP)(T:bT)(s:Rat)(a:Nat):Nat->Nat->Rat
 | 0,v=>if T.o a=v then s else 0
 | i+1,v=>if T.b i=v then s*T.f i a else P.ry T s a i v
section
variable {P:LP} {T:bT}
theorem G4(hinj:∀ j j',j<P.n->j'<P.n->T.o j=T.o j'->j=j')(g:Nat->Rat):∀ k i,k<=P.n->(∀ j,j<k->T.o j≠P.n+i)->P.dl T g k i=0
 | 0,_,_,_=>rfl
 | k+1,i,hk,h=>by
  rw[LP.dl,if_neg (h k ae)];exact G4 hinj g k i ae (fun j hj=>h j ae)
theorem O9(h:iy P T)(g:Nat->Rat)(s:Nat->Rat):∀ k,k<=P.n->bD P.m (fun i=>P.dl T g k i*s i)=bD k (fun j=>if P.n<=T.o j then g j*s (T.o j-P.n) else 0)
 | 0,_=>cj (fun i hi=>by simp only[LP.dl];grind)
 | k+1,hk=>by
  have ih:=O9 h g s k ae;by_cases hs:P.n<=T.o k
  ·have aP:T.o k-P.n<P.m:=by have:=h.ol k ae;omega
   have j8:P.dl T g k (T.o k-P.n)=0:=G4 h.oinj g k _ ae (fun j hj e=>by
    have:=h.oinj j k ae ae ae;omega)
   rw[iB aP] at ih ⊢;rw[j8] at ih;have e1:bD P.m (fun i=>if i=T.o k-P.n then(0:Rat) else P.dl T g (k+1) i*s i)=bD P.m (fun i=>if i=T.o k-P.n then(0:Rat) else P.dl T g k i*s i):=bN (fun i hi=>by
    by_cases hio:i=T.o k-P.n
    ·simp only[if_pos hio]
    ·simp only[if_neg hio,LP.dl,if_neg (show ¬ T.o k=P.n+i by omega)])
   have e2:P.dl T g (k+1) (T.o k-P.n)=g k:=by simp only[LP.dl,if_pos (show T.o k=P.n+(T.o k-P.n) by omega)]
   rw[e1,e2,bD,if_pos hs,← ih];grind
  ·have e1:bD P.m (fun i=>P.dl T g (k+1) i*s i)=bD P.m (fun i=>P.dl T g k i*s i):=bN (fun i hi=>by simp only[LP.dl,if_neg (show ¬ T.o k=P.n+i by omega)]);rw[e1,ih,bD,if_neg hs];grind
def LP.sl(P:LP)(x:Nat->Rat)(i:Nat):Rat:=P.B i-bD P.n (fun k=>P.A i k*x k)
theorem kr(x:Nat->Rat){v:Nat}(hv:P.n<=v):P.val x v=P.sl x (v-P.n):=by simp only[LP.val,LP.sl,if_neg (show ¬ v<P.n by omega)]
theorem jR(x:Nat->Rat){v:Nat}(hv:v<P.n):P.val x v=x v:=by simp only[LP.val,if_pos hv]
theorem Ef(h:iy P T)(g:Nat->Rat)(hg:∀ j,j<P.n->T.o j<P.n->g j=0)(x:Nat->Rat):bD P.n (fun j=>g j*P.val x (T.o j))=bD P.m (fun i=>P.dl T g P.n i*P.sl x i):=by
 rw[O9 h g (P.sl x) P.n (Nat.le_refl _)];refine bN (fun j hj=>?_);by_cases hs:P.n<=T.o j
 ·rw[if_pos hs,kr x hs]
 ·rw[if_neg hs,hg j hj ae];grind
def LP.comb(P:LP)(y:Nat->Rat)(k:Nat):Rat:=bD P.m (fun i=>y i*P.A i k)
def LP.yu(P:LP)(y:Nat->Rat):Rat:=bD P.m (fun i=>y i*P.B i)
theorem Ag(y x:Nat->Rat):bD P.m (fun i=>y i*P.sl x i)=P.yu y-bD P.n (fun k=>P.comb y k*x k):=by
 have h1:bD P.m (fun i=>y i*P.sl x i)=bD P.m (fun i=>y i*P.B i+(-1)*bD P.n (fun k=>y i*P.A i k*x k)):=bN (fun i hi=>by
  have:bD P.n (fun k=>y i*P.A i k*x k)=y i*bD P.n (fun k=>P.A i k*x k):=by rw[← dB];exact bN (fun k hk=>by grind)
  rw[this];simp only[LP.sl];grind)
 have h2:bD P.m (fun i=>bD P.n (fun k=>y i*P.A i k*x k))=bD P.n (fun k=>P.comb y k*x k):=by
  rw[Cx];refine bN (fun k hk=>?_);have:(fun i=>y i*P.A i k*x k)=fun i=>x k*(y i*P.A i k):=by funext i;grind
  rw[this,dB];simp only[LP.comb];grind
 rw[h1,lh,dB,h2];simp only[LP.yu];grind
theorem wm{c d:Rat}{u w:Nat->Rat}{n:Nat}(h:∀ x:Nat->Rat,c+bD n (fun k=>u k*x k)=d+bD n (fun k=>w k*x k)):c=d/\∀ k,k<n->u k=w k:=by
 have h0:=h (fun _=>0);rw[cj (fun k hk=>by grind),cj (fun k hk=>by grind)] at h0;refine⟨by grind,fun k hk=>?_⟩;have h1:=h (fun j=>if j=k then 1 else 0);rw[gZ hk _ (fun j hj c8=>by rw[if_neg c8];grind),gZ hk _ (fun j hj c8=>by rw[if_neg c8];grind),if_pos rfl] at h1;grind
def LP.mh(P:LP)(x:Nat->Rat):Prop:=∀ i,i<P.m->bD P.n (fun k=>P.A i k*x k)<=P.B i
structure gS(P:LP)(y:Nat->Rat):Prop where
 pos:∀ i,i<P.m->0<=y i
 comb:∀ k,k<P.n->P.comb y k=0
 neg:P.yu y<0
structure j2(P:LP)(v:Rat)(x y:Nat->Rat):Prop where
 mh:P.mh x
 pos:∀ i,i<P.m->0<=y i
 comb:∀ k,k<P.n->P.comb y k=-P.C k
 yu:P.yu y=-v
 worth:P.obj x=v
structure iL(P:LP)(x d:Nat->Rat):Prop where
 mh:P.mh x
 row:∀ i,i<P.m->bD P.n (fun k=>P.A i k*d k)<=0
 worth:P.obj d<0
def LP.ref(P:LP)(T:bT)(r i:Nat):Rat:=if T.b r=P.n+i then 1 else -P.dl T (T.f r) P.n i
theorem zp(g:Nat->Rat)(hg:∀ j,j<P.n->P.n<=T.o j->0<=g j):∀ k i,k<=P.n->0<=P.dl T g k i
 | 0,_,_=>Rat.le_refl
 | k+1,i,hk=>by
  rw[LP.dl];split
  ·exact hg k ae ae
  ·exact zp g hg k i ae
theorem zo(g:Nat->Rat)(hg:∀ j,j<P.n->P.n<=T.o j->g j<=0):∀ k i,k<=P.n->P.dl T g k i<=0
 | 0,_,_=>Rat.le_refl
 | k+1,i,hk=>by
  rw[LP.dl];split
  ·exact hg k ae ae
  ·exact zo g hg k i ae
theorem RN(h:Good P T){r:Nat}(hr:r<P.m)(hs:P.n<=T.b r)(hc:T.c r<0)(hn:∀ j,j<P.n->P.n<=T.o j->T.f r j<=0):gS P (P.ref T r):=by
 have key:∀ x,bD P.m (fun i=>P.ref T r i*P.sl x i)=T.c r:=fun x=>by
  have aP:T.b r-P.n<P.m:=by have:=h.inv.bl r hr;omega
  have e:=h.inv.line r hr x;rw[Ef h.inv (T.f r) (fun j hj ho=>h.fz j hj ho r hr hs),kr x hs] at e;have j8:P.dl T (T.f r) P.n (T.b r-P.n)=0:=G4 h.inv.oinj _ P.n _ (Nat.le_refl _) (fun j hj e=>h.inv.bo r j hr hj ae);have e1:bD P.m (fun i=>P.ref T r i*P.sl x i)=bD P.m (fun i=>if i=T.b r-P.n then 0 else P.ref T r i*P.sl x i)+P.sl x (T.b r-P.n):=by
   rw[iB aP];have:P.ref T r (T.b r-P.n)=1:=by simp only[LP.ref,if_pos (show T.b r=P.n+(T.b r-P.n) by omega)]
   rw[this];grind
  have e2:bD P.m (fun i=>if i=T.b r-P.n then 0 else P.ref T r i*P.sl x i)=-1*bD P.m (fun i=>P.dl T (T.f r) P.n i*P.sl x i):=by
   rw[← dB];refine bN (fun i hi=>?_);by_cases px:i=T.b r-P.n
   ·rw[if_pos px,px,j8];grind
   ·rw[if_neg px];simp only[LP.ref,if_neg (show ¬ T.b r=P.n+i by omega)];grind
  rw[e1,e2,e];grind
 have LO:=wm (c:=P.yu (P.ref T r)) (d:=T.c r) (u:=fun k=>-P.comb (P.ref T r) k) (w:=fun _=>0) (n:=P.n) (fun x=>by
  have:=key x;rw[Ag] at this;rw[cj (g:=fun k=>(0:Rat)*x k) (fun k hk=>by grind),show(fun k=>-P.comb (P.ref T r) k*x k)=fun k=>-1*(P.comb (P.ref T r) k*x k) by funext k;grind,dB];grind)
 refine⟨fun i hi=>?_,fun k hk=>by have:=LO.2 k hk;grind,by rw[LO.1];exact hc⟩;simp only[LP.ref];split
 ·decide
 ·have:=zo (T:=T) (T.f r) hn P.n i (Nat.le_refl _);grind
theorem Nj:∀ i v,(∀ w,w<i->T.b w≠v)->P.pt T i v=0
 | 0,_,_=>rfl
 | i+1,v,h=>by rw[LP.pt,if_neg (h i ae)];exact Nj i v (fun w hw=>h w ae)
theorem Ub(h:iy P T):∀ i r,r<i->i<=P.m->P.pt T i (T.b r)=T.c r
 | 0,_,h1,_=>ae
 | i+1,r,h1,h2=>by
  rw[LP.pt];by_cases e:T.b i=T.b r
  ·rw[if_pos e,h.binj i r ae ae e]
  ·rw[if_neg e];exact Ub h i r (Nat.lt_of_le_of_ne ae (fun px=>e (by rw[px]))) ae
theorem MJ(s:Rat)(a:Nat):∀ i v,(∀ w,w<i->T.b w≠v)->P.ry T s a i v=if T.o a=v then s else 0
 | 0,_,_=>rfl
 | i+1,v,h=>by rw[LP.ry,if_neg (h i ae)];exact MJ s a i v (fun w hw=>h w ae)
theorem TZ(h:iy P T)(s:Rat)(a:Nat):∀ i r,r<i->i<=P.m->P.ry T s a i (T.b r)=s*T.f r a
 | 0,_,h1,_=>ae
 | i+1,r,h1,h2=>by
  rw[LP.ry];by_cases e:T.b i=T.b r
  ·rw[if_pos e,h.binj i r ae ae e]
  ·rw[if_neg e];exact TZ h s a i r (Nat.lt_of_le_of_ne ae (fun px=>e (by rw[px]))) ae
theorem WN(h:iy P T){x:Nat->Rat}(hx:∀ j,j<P.n->P.val x (T.o j)=0):∀ k,k<P.n->P.pt T P.m k=x k:=fun k hk=>by
 rcases h.all k ae with⟨i,hi,e⟩|⟨j,hj,e⟩
 ·have e1:=h.line i hi x;rw[cj (fun q hq=>by rw[hx q hq];grind),e,jR x hk] at e1;rw[← e,Ub h P.m i hi (Nat.le_refl _),e,e1];grind
 ·have e1:=hx j hj;rw[e,jR x hk] at e1;rw[Nj P.m k (fun w hw e'=>h.bo w j hw hj (by rw[e,e'])),e1]
theorem val_congr{x y:Nat->Rat}(h:∀ k,k<P.n->x k=y k)(v:Nat):P.val x v=P.val y v:=by
 by_cases hv:v<P.n
 ·rw[jR x hv,jR y hv,h v hv]
 ·rw[kr x ae,kr y ae,LP.sl,LP.sl,bN (fun k hk=>by rw[h k hk])]
theorem vS(h:iy P T):∀ j,j<P.n->P.val (P.pt T P.m) (T.o j)=0:=fun j hj=>by
 obtain⟨x,hx⟩:=h.surj (fun _=>0);rw[val_congr (WN h hx)];exact hx j hj
theorem Nk(h:iy P T){i:Nat}(hi:i<P.m):P.val (P.pt T P.m) (T.b i)=T.c i:=by
 rw[h.line i hi,cj (fun q hq=>by rw[vS h q hq];grind)];grind
theorem WQ(h:iy P T):P.obj (P.pt T P.m)=T.wc:=by
 rw[h.worth,cj (fun q hq=>by rw[vS h q hq];grind)];grind
theorem II(h:iy P T)(hp:Pos P T):P.mh (P.pt T P.m):=fun i hi=>by
 have hs:0<=P.sl (P.pt T P.m) i:=by
  have hv:P.val (P.pt T P.m) (P.n+i)=P.sl (P.pt T P.m) i:=by rw[kr _ ae];congr 1;omega
  rw[← hv];rcases h.all (P.n+i) ae with⟨w,hw,e⟩|⟨j,hj,e⟩
  ·rw[← e,Nk h hw];exact hp w hw ae
  ·rw[← e,vS h j hj];exact Rat.le_refl
 simp only[LP.sl] at hs;grind
theorem qcM(h:kg P T)(hw:∀ j,j<P.n->P.n<=T.o j->0<=T.wf j):j2 P T.wc (P.pt T P.m) (P.dl T T.wf P.n):=by
 have LO:=wm (c:=0) (d:=T.wc+P.yu (P.dl T T.wf P.n)) (u:=P.C) (w:=fun k=>-P.comb (P.dl T T.wf P.n) k) (n:=P.n) (fun x=>by
  have e:=h.inv.worth x;rw[Ef h.inv T.wf h.wz,Ag] at e;simp only[LP.obj] at e;rw[show(fun k=>-P.comb (P.dl T T.wf P.n) k*x k)=fun k=>-1*(P.comb (P.dl T T.wf P.n) k*x k) by funext k;grind,dB,e];grind)
 exact⟨II h.inv h.pos,fun i hi=>zp (T:=T) T.wf hw P.n i (Nat.le_refl _),fun k hk=>by have:=LO.2 k hk;grind,by have:=LO.1;grind,WQ h.inv⟩
theorem Wp (h:iy P T) (s:Rat) {a:Nat} (ha:a<P.n) {x z:Nat->Rat} (hx:∀ j,j<P.n->P.val x (T.o j)=0) (hz:∀ j,j<P.n->P.val z (T.o j)=if j=a then s else 0) :
    ∀ k,k<P.n->P.ry T s a P.m k=z k-x k:=fun k hk=>by
 rcases h.all k ae with⟨i,hi,e⟩|⟨j,hj,e⟩
 ·have e1:=h.line i hi x;have e2:=h.line i hi z;rw[cj (fun q hq=>by rw[hx q hq];grind),e,jR x hk] at e1;rw[gZ ha _ (fun q hq c8=>by rw[hz q hq,if_neg c8];grind),hz a ha,if_pos rfl,e,jR z hk] at e2;rw[← e,TZ h s a P.m i hi (Nat.le_refl _),e,e1,e2];grind
 ·have e1:=hx j hj;have e2:=hz j hj;rw[e,jR x hk] at e1;rw[e,jR z hk] at e2;rw[MJ s a P.m k (fun w hw e'=>h.bo w j hw hj (by rw[e,e'])),e1,e2];by_cases hja:j=a
  ·rw[if_pos hja,if_pos (by rw[← hja,e])];grind
  ·rw[if_neg hja,if_neg (fun e'=>hja (h.oinj j a hj ha (by rw[e,e'])))];grind
theorem Jn (h:iy P T) (hp:Pos P T) (s:Rat) {a:Nat} (ha:a<P.n) (hw:T.wf a*s<0) (hr:∀ i,i<P.m->P.n<=T.b i->0<=T.f i a*s) (ho:P.n<=T.o a->0<=s) :
    iL P (P.pt T P.m) (P.ry T s a P.m):=by
 obtain⟨x,hx⟩:=h.surj (fun _=>0);obtain⟨z,hz⟩:=h.surj (fun j=>if j=a then s else 0);have hd:=Wp h s ha hx hz;refine⟨II h hp,fun i hi=>?_,?_⟩
 ·have e:bD P.n (fun k=>P.A i k*P.ry T s a P.m k)=P.sl x i-P.sl z i:=by
   rw[bN (h:=fun k=>P.A i k*z k+-1*(P.A i k*x k)) (fun k hk=>by rw[hd k hk];grind),lh,dB];simp only[LP.sl];grind
  have hv:∀ x,P.val x (P.n+i)=P.sl x i:=fun x=>by rw[kr _ ae];congr 1;omega
  rw[e,← hv x,← hv z];rcases h.all (P.n+i) ae with⟨w,Gq,e'⟩|⟨j,hj,e'⟩
  ·rw[← e',h.line w Gq x,h.line w Gq z,cj (fun q hq=>by rw[hx q hq];grind),gZ ha _ (fun q hq c8=>by rw[hz q hq,if_neg c8];grind),hz a ha,if_pos rfl];have:=hr w Gq ae;grind
  ·rw[← e',hx j hj,hz j hj];by_cases hja:j=a
   ·rw[if_pos hja];have:=ho (by rw[← hja,e'];omega);grind
   ·rw[if_neg hja];grind
 ·have e:P.obj (P.ry T s a P.m)=P.obj z-P.obj x:=by
   simp only[LP.obj];rw[bN (h:=fun k=>P.C k*z k+-1*(P.C k*x k)) (fun k hk=>by rw[hd k hk];grind),lh,dB];grind
  rw[e,h.worth x,h.worth z,cj (g:=fun q=>T.wf q*P.val x (T.o q)) (fun q hq=>by rw[hx q hq];grind),gZ ha _ (fun q hq c8=>by rw[hz q hq,if_neg c8];grind),hz a ha,if_pos rfl];grind
theorem gS.none{y:Nat->Rat}(h:gS P y)(x:Nat->Rat):¬ P.mh x:=fun hf=>by
 have e:=Ag (P:=P) y x;rw[cj (g:=fun k=>P.comb y k*x k) (fun k hk=>by rw[h.comb k hk];grind)] at e;have h1:0<=bD P.m (fun i=>y i*P.sl x i):=qk (fun i hi=>Rat.mul_nonneg (h.pos i hi) (by have:=hf i hi;simp only[LP.sl];grind));have:=h.neg;grind
theorem j2.least{v:Rat}{x y:Nat->Rat}(h:j2 P v x y)(z:Nat->Rat)(hz:P.mh z):v<=P.obj z:=by
 have e:=Ag (P:=P) y z;have e2:bD P.n (fun k=>P.comb y k*z k)=-1*P.obj z:=by
  simp only[LP.obj];rw[← dB];exact bN (fun k hk=>by rw[h.comb k hk];grind)
 have h1:0<=bD P.m (fun i=>y i*P.sl z i):=qk (fun i hi=>Rat.mul_nonneg (h.pos i hi) (by have:=hz i hi;simp only[LP.sl];grind));rw[e,e2,h.yu] at h1;grind
theorem iL.deep{x d:Nat->Rat}(h:iL P x d)(c:Rat):∃ z,P.mh z/\P.obj z<c:=by
 have hd:=h.worth;have hi:0<(-P.obj d)⁻¹:=Rat.inv_pos.2 (by grind)
 let t:Rat:=if P.obj x<c then 0 else(P.obj x-c+1)*(-P.obj d)⁻¹
 have ht:0<=t:=by
  show 0<=(if P.obj x<c then(0:Rat) else(P.obj x-c+1)*(-P.obj d)⁻¹);split
  ·exact Rat.le_refl
  ·exact Rat.mul_nonneg (by grind) (Rat.le_of_lt hi)
 have hs:∀ u:Nat->Rat,bD P.n (fun k=>u k*(x k+t*d k))=bD P.n (fun k=>u k*x k)+t*bD P.n (fun k=>u k*d k):=fun u=>by
  rw[← dB,← lh];exact bN (fun k hk=>by grind)
 refine⟨fun k=>x k+t*d k,fun i BZ=>?_,?_⟩
 ·rw[hs];have h1:=h.mh i BZ;have h2:=h.row i BZ;have:=Rat.mul_nonneg ht (show 0<=-bD P.n (fun k=>P.A i k*d k) by grind);grind
 ·have e:P.obj (fun k=>x k+t*d k)=P.obj x+t*P.obj d:=hs P.C;rw[e];show P.obj x+(if P.obj x<c then(0:Rat) else(P.obj x-c+1)*(-P.obj d)⁻¹)*P.obj d<c;split
  ·grind
  ·have:(P.obj x-c+1)*(-P.obj d)⁻¹*P.obj d=-(P.obj x-c+1):=by grind
   rw[this];grind
end
end Go.Proofs.YtmahadmefplbnaaGreatDoor
namespace Go.Proofs.YtmahadmefplbnaaGreatDoor
def ZB(B:Nat)(x:Rat):Prop:=∃ e:Int,x=(e:Rat)/\e.natAbs<=B
section
variable {A B:Nat} {x y:Rat}
theorem ZB.mono(h:ZB A x)(hb:A<=B):ZB B x:=let ⟨e,h1,h2⟩:=h;⟨e,h1,Nat.le_trans h2 hb⟩
theorem ZB.add(h:ZB A x)(k:ZB B y):ZB (A+B) (x+y):=by
 obtain⟨e,h1,h2⟩:=h;obtain⟨f,k1,k2⟩:=k;exact⟨e+f,by rw[h1,k1,Rat.intCast_add],Nat.le_trans (Int.natAbs_add_le _ _) ae⟩
theorem ZB.mul(h:ZB A x)(k:ZB B y):ZB (A*B) (x*y):=by
 obtain⟨e,h1,h2⟩:=h;obtain⟨f,k1,k2⟩:=k;exact⟨e*f,by rw[h1,k1,Rat.intCast_mul],by rw[Int.natAbs_mul];exact Nat.mul_le_mul h2 k2⟩
theorem ZB.neg(h:ZB A x):ZB A (-x):=by
 obtain⟨e,h1,h2⟩:=h;exact⟨-e,by rw[h1,Rat.intCast_neg],by rw[Int.natAbs_neg];exact h2⟩
theorem ZB.zero(A:Nat):ZB A 0:=⟨0,rfl,Nat.zero_le _⟩
theorem ZB.one(h:1<=A):ZB A 1:=⟨1,rfl,h⟩
theorem ZB.sum{n:Nat}{g:Nat->Rat}(h:∀ j,j<n->ZB B (g j)):ZB (n*B) (bD n g):=by
 induction n with
 | zero=>rw[bD];exact ZB.zero _
 | succ n ih=>rw[bD];exact((ih (fun j hj=>h j ae)).add (h n ae)).mono (by rw[Nat.add_mul,Nat.one_mul];exact Nat.le_refl _)
end
theorem ZB.qb{G q:Nat}{D x:Rat}(h0:D≠0)(h1:ZB G D)(h2:ZB G (D*x))(hq:G<10 ^ q):QB q x:=by
 obtain⟨d,e1,e2⟩:=h1;obtain⟨e,f1,f2⟩:=h2;have hd:d≠0:=fun h=>h0 (by rw[e1,h];rfl)
 have key:∃ z:Int,z.natAbs=e.natAbs/\x=mkRat z d.natAbs:=by
  rcases Int.natAbs_eq d with h|h
  ·refine⟨e,rfl,?_⟩;rw[Rat.mkRat_eq_div,show((d.natAbs:Nat):Rat)=D by rw[← Rat.intCast_natCast,← h,e1],← f1];rw[Rat.mul_comm,Rat.mul_div_cancel h0]
  ·refine⟨-e,Int.natAbs_neg e,?_⟩;rw[Rat.mkRat_eq_div,show((d.natAbs:Nat):Rat)=-D by rw[← Rat.intCast_natCast,show(d.natAbs:Int)=-d by omega,Rat.intCast_neg,e1],Rat.intCast_neg,← f1];grind
 obtain⟨z,hz,hx⟩:=key;rw[hx];exact QB.mk' ae ae ae
structure Sz(P:LP)(s:Rat)(K:Nat):Prop where
 one:1<=K
 nz:s≠0
 sb:ZB K s
 A:∀ i,i<P.m->∀ k,k<P.n->ZB K (s*P.A i k)
 B:∀ i,i<P.m->ZB K (s*P.B i)
 C:∀ k,k<P.n->ZB K (s*P.C k)
def LP.uv(P:LP)(v k:Nat):Rat:=if v<P.n then(if k=v then 1 else 0) else -P.A (v-P.n) k
def LP.kv(P:LP)(v:Nat):Rat:=if v<P.n then 0 else P.B (v-P.n)
theorem Mg(P:LP)(x:Nat->Rat)(v:Nat):P.val x v=P.kv v+bD P.n (fun k=>P.uv v k*x k):=by
 by_cases hv:v<P.n
 ·simp only[LP.val,LP.kv,LP.uv,if_pos hv];rw[gZ hv _ (fun j hj c8=>by rw[if_neg c8];grind),if_pos rfl];grind
 ·simp only[LP.val,LP.kv,LP.uv,if_neg hv];rw[show(fun k=>-P.A (v-P.n) k*x k)=fun k=>-1*(P.A (v-P.n) k*x k) by funext k;grind,dB];grind
theorem Bp(P:LP)(o:Nat->Nat)(g x:Nat->Rat):bD P.n (fun j=>g j*P.val x (o j))=bD P.n (fun j=>g j*P.kv (o j))+bD P.n (fun k=>bD P.n (fun j=>g j*P.uv (o j) k)*x k):=by
 have h1:bD P.n (fun j=>g j*P.val x (o j))=bD P.n (fun j=>g j*P.kv (o j)+bD P.n (fun k=>g j*P.uv (o j) k*x k)):=bN (fun j hj=>by
  rw[Mg,show(fun k=>g j*P.uv (o j) k*x k)=fun k=>g j*(P.uv (o j) k*x k) by funext k;grind,dB];grind)
 have h2:bD P.n (fun j=>bD P.n (fun k=>g j*P.uv (o j) k*x k))=bD P.n (fun k=>bD P.n (fun j=>g j*P.uv (o j) k)*x k):=by
  rw[Cx];refine bN (fun k hk=>?_);rw[show(fun j=>g j*P.uv (o j) k*x k)=fun j=>x k*(g j*P.uv (o j) k) by funext j;grind,dB];grind
 rw[h1,lh,h2]
section
variable {P:LP} {T:bT} {s:Rat} {K q:Nat}
theorem Sz.uv(S:Sz P s K){v:Nat}(hv:v<P.n+P.m){k:Nat}(hk:k<P.n):ZB K (s*P.uv v k):=by
 simp only[LP.uv];split
 ·split
  ·rw[Rat.mul_one];exact S.sb
  ·rw[Rat.mul_zero];exact ZB.zero _
 ·rw[show s * -P.A (v-P.n) k=-(s*P.A (v-P.n) k) by grind];exact(S.A _ ae k hk).neg
theorem Sz.kv(S:Sz P s K){v:Nat}(hv:v<P.n+P.m):ZB K (s*P.kv v):=by
 simp only[LP.kv];split
 ·rw[Rat.mul_zero];exact ZB.zero _
 ·exact S.B _ ae
structure TQ(P:LP)(T:bT)(q:Nat):Prop where
 c:∀ i,i<P.m->QB q (T.c i)
 f:∀ i,i<P.m->∀ j,j<P.n->QB q (T.f i j)
 wc:QB q T.wc
 wf:∀ j,j<P.n->QB q (T.wf j)
end
def Vm(P:LP)(q:Nat):Prop:=∀ T,iy P T->TQ P T q
end Go.Proofs.YtmahadmefplbnaaGreatDoor
namespace Go.Proofs.YtmahadmefplbnaaGreatDoor
def FB:Nat->Nat->Nat
 | 0,_=>1
 | n+1,K=>(n+1)*K*FB n K
def tD(i:Nat)(R:Nat->Nat->Rat):Nat->Nat->Rat:=fun j=>if j<i then R j else R (j+1)
def kt(R:Nat->Nat->Rat)(j:Nat)(u:Nat->Rat):Nat->Nat->Rat:=fun i=>if i=j then u else R i
def Wl(i:Nat):Rat:=if i % 2=0 then 1 else -1
def dt:Nat->(Nat->Nat->Rat)->(Nat->Nat)->Rat
 | 0,_,_=>1
 | n+1,R,c=>bD (n+1) (fun i=>Wl i*R i (c n)*dt n (tD i R) c)
section
variable {R R':Nat->Nat->Rat} {c c':Nat->Nat} {n j i:Nat} {u v:Nat->Rat}
theorem vD:tD j (kt R j u)=tD j R:=by
 funext m;unfold tD kt;split
 ·rw[if_neg ae]
 ·rw[if_neg ae]
theorem FF(h:i<j):tD i (kt R j u)=kt (tD i R) (j-1) u:=by
 funext m;simp only[tD,kt];by_cases a:m<i
 ·rw[if_pos a,if_pos a,if_neg ae,if_neg ae]
 ·rw[if_neg a,if_neg a];by_cases e:m+1=j
  ·rw[if_pos e,if_pos ae]
  ·rw[if_neg e,if_neg ae]
theorem FG(h:j<i):tD i (kt R j u)=kt (tD i R) j u:=by
 funext m;simp only[tD,kt];by_cases a:m<i
 ·rw[if_pos a,if_pos a]
 ·rw[if_neg a,if_neg a,if_neg ae,if_neg ae]
theorem qm(h:i≠j):kt R j u i=R i:=if_neg h
theorem qo:kt R j u j=u:=if_pos rfl
theorem xg(h:∀ i,i<n->∀ m,m<n->R i (c m)=R' i (c' m)):dt n R c=dt n R' c':=by
 induction n generalizing R R' with
 | zero=>rfl
 | succ n ih =>
  refine bN fun i hi=>?_
  rw[h i hi n ae,ih (R:=tD i R) (R':=tD i R') fun a ha m hm=>?_];unfold tD;split
  ·exact h a ae m ae
  ·exact h (a+1) ae m ae
theorem Bh(k:Rat)(hj:j<n):dt n (kt R j (fun x=>u x+k*v x)) c=dt n (kt R j u) c+k*dt n (kt R j v) c:=by
 induction n generalizing R j with
 | zero=>omega
 | succ n ih =>
  rw[dt,dt,dt,← dB,← lh];refine bN fun i hi=>?_
  by_cases e:i=j
  ·subst e;rw[vD,vD,vD,qo,qo,qo];grind
  ·rw[qm e,qm e,qm e];by_cases h:i<j
   ·rw[FF h,FF h,FF h,ih ae];grind
   ·rw[FG ae,FG ae,FG ae,ih ae];grind
theorem MC(i:Nat):Wl (i+1)=-Wl i:=by
 unfold Wl;by_cases h:i % 2=0
 ·rw[if_pos h,if_neg ae]
 ·rw[if_neg h,if_pos ae];decide
theorem O5(hj:j+1<n)(h:R j=R (j+1)):dt n R c=0:=by
 induction n generalizing R j with
 | zero=>omega
 | succ n ih =>
  rw[dt,iB (show j<n+1 by omega),iB hj,if_neg ae,MC,← h];have e:tD (j+1) R=tD j R:=by
   funext m;unfold tD
   by_cases a:m<j
   ·rw[if_pos a,if_pos ae]
   ·by_cases b:m=j
    ·subst b;rw[if_pos ae,if_neg ae,h]
    ·rw[if_neg a,if_neg ae]
  rw[e,cj]
  ·grind
  ·intro i hi;by_cases a:i=j+1
   ·rw[if_pos a]
   ·by_cases b:i=j
    ·rw[if_neg a,if_pos b]
    ·rw[if_neg a,if_neg b];rw[show dt n (tD i R) c=0 from ?_,Rat.mul_zero];by_cases d:i<j
     ·exact ih (j:=j-1) ae (by unfold tD;rw[if_neg ae,if_neg ae,show j-1+1=j by omega,h])
     ·exact ih (j:=j) ae (by unfold tD;rw[if_pos ae,if_pos ae,h])
theorem vE(h:i≠j):kt (kt R i u) j v=kt (kt R j v) i u:=by
 funext m;simp only[kt]
 by_cases a:m=j
 ·rw[if_pos a,if_pos a,if_neg ae]
 ·rw[if_neg a,if_neg a]
theorem Te(hj:j+1<n):dt n (kt (kt R j u) (j+1) v) c=-dt n (kt (kt R j v) (j+1) u) c:=by
 have z:∀ s,dt n (kt (kt R j s) (j+1) s) c=0:=fun s=>O5 hj (by rw[qm ae,qo,qo])
 have l:∀ s,dt n (kt (kt R j s) (j+1) (fun x=>u x+1*v x)) c=dt n (kt (kt R j s) (j+1) u) c+1*dt n (kt (kt R j s) (j+1) v) c:=fun s=>Bh 1 hj
 have m:∀ s,dt n (kt (kt R j (fun x=>u x+1*v x)) (j+1) s) c=dt n (kt (kt R j u) (j+1) s) c+1*dt n (kt (kt R j v) (j+1) s) c:=fun s=>by
  rw[vE ae,Bh 1 ae,vE (u:=s) ae,vE (u:=s) ae]
 have a:=z (fun x=>u x+1*v x);rw[l,m,m,z u,z v] at a;grind
theorem Bg:∀ (d j:Nat) (R:Nat->Nat->Rat),j+d+1<n->R j=R (j+d+1)->dt n R c=0
 | 0,j,R,hj,h=>O5 hj h
 | d+1,j,R,hj,h=>by
  have e:R=kt (kt R j (R j)) (j+1) (R (j+1)):=by
   funext m;unfold kt;split
   ·rename_i a;rw[a]
   ·split
    ·rename_i a;rw[a]
    ·rfl
  rw[e,Te ae,Bg d (j+1) _ ae (by rw[qo,qm ae,qm ae,h];congr 1;omega)];decide
theorem Yn(hi:i<n)(hj:j<n)(c8:i≠j)(h:R i=R j):dt n R c=0:=by
 rcases Nat.lt_or_gt_of_ne c8 with a|a
 ·exact Bg (j-i-1) i R ae (by rw[show i+(j-i-1)+1=j by omega];exact h)
 ·exact Bg (i-j-1) j R ae (by rw[show j+(i-j-1)+1=i by omega];exact h.symm)
theorem O4(f:Nat->Rat)(hj:j<n):∀ l,dt n (kt R j (fun x=>bD l (fun i=>f i*R i x))) c=bD l (fun i=>f i*dt n (kt R j (R i)) c)
 | 0=>by
  have:=Bh (R:=R) (c:=c) (u:=fun _=>0) (v:=fun _=>0) 1 hj;simp only[bD,Rat.mul_zero,Rat.add_zero] at this ⊢;grind
 | l+1=>by simp only[bD];rw[Bh _ hj,O4 f hj l]
theorem UC{K:Nat}(h:∀ i,i<n->∀ m,m<n->ZB K (R i (c m))):ZB (FB n K) (dt n R c):=by
 induction n generalizing R with
 | zero=>exact ZB.one (Nat.le_refl _)
 | succ n ih =>
  rw[dt,FB,Nat.mul_assoc];refine ZB.sum fun i hi=>?_
  have a:=(h i hi n ae).mul (ih (R:=tD i R) fun a ha m hm=>by
   unfold tD;split
   ·exact h a ae m ae
   ·exact h (a+1) ae m ae)
  rw[Rat.mul_assoc];unfold Wl;split
  ·rw[Rat.one_mul];exact a
  ·rw[Rat.neg_mul,Rat.one_mul];exact a.neg
end
theorem UD{d:Nat}:∀ (n:Nat) (a:Nat->Nat->Rat),(∀ g:Nat->Rat,(∀ k,k<d->bD n (fun j=>g j*a j k)=0)->∀ j,j<n->g j=0)->∃ c:Nat->Nat,(∀ m,m<n->c m<d)/\dt n a c≠0
 | 0,a,_=>⟨fun _=>0,fun m hm=>ae,by rw[dt];decide⟩
 | n+1,a,h=>by
  obtain⟨c,hc,h0⟩:=UD n a fun g hg j hj=>by
   have:=h (fun i=>if i=n then 0 else g i) (fun k hk=>by
    rw[bD,if_pos rfl,Rat.zero_mul,Rat.add_zero,← hg k hk];exact bN fun i hi=>by rw[if_neg ae]) j ae
   rwa[if_neg ae] at this
  by_cases e:∃ k,k<d/\dt (n+1) a (fun m=>if m=n then k else c m)≠0
  ·obtain⟨k,hk,he⟩:=e;exact⟨_,fun m hm=>by show(if m=n then k else c m)<d;split;exact hk;exact hc m ae,he⟩
  ·exfalso;have z:=h (fun i=>Wl i*dt n (tD i a) c) (fun k hk=>by
    refine(bN fun i hi=>?_).trans (Classical.not_not.1 fun h'=>e ⟨k,hk,h'⟩);rw[show(fun m=>if m=n then k else c m) n=k from if_pos rfl,xg (R:=tD i a) (R':=tD i a) (c:=c) (c':=fun m=>if m=n then k else c m) fun i' _ m hm=>by rw[if_neg ae]];grind) n ae
   rw[xg (R:=tD n a) (R':=a) (c':=c) fun i hi m hm=>by unfold tD;rw[if_pos hi]] at z;refine h0 ((Rat.mul_eq_zero.1 z).resolve_left ?_);unfold Wl;split <;> decide
theorem crd (n K d:Nat) (a:Nat->Nat->Rat) (t f:Nat->Rat) (_:1<=K) (ha:∀ j,j<n->∀ k,k<d->ZB K (a j k)) (ht:∀ k,k<d->ZB K (t k))
    (he:∀ k,k<d->bD n (fun j=>f j*a j k)=t k) (hi:∀ g:Nat->Rat,(∀ k,k<d->bD n (fun j=>g j*a j k)=0)->∀ j,j<n->g j=0) :
    ∃ D:Rat,D≠0/\ZB (FB n K) D/\∀ j,j<n->ZB (FB n K) (D*f j):=by
 obtain⟨c,hc,h0⟩:=UD n a hi;refine⟨dt n a c,h0,UC fun i hi m hm=>ha i hi _ (hc m hm),fun j hj=>?_⟩;have e:dt n a c*f j=dt n (kt a j t) c:=by
  rw[xg (R:=kt a j t) (R':=kt a j (fun x=>bD n (fun i=>f i*a i x))) (c':=c) fun i _ m hm=>?_,O4 f hj,gZ hj,show kt a j (a j)=a from ?_,Rat.mul_comm]
  ·funext i;unfold kt;split
   ·rename_i e;rw[e]
   ·rfl
  ·intro i hi c8;rw[Yn (i:=i) (j:=j) hi hj c8 (by rw[qm c8,qo]),Rat.mul_zero]
  ·unfold kt;split
   ·exact(he _ (hc m hm)).symm
   ·rfl
 rw[e];refine UC fun i hi m hm=>?_
 unfold kt;split
 ·exact ht _ (hc m hm)
 ·exact ha i hi _ (hc m hm)
section
variable {P:LP} {T:bT} {s:Rat} {K q:Nat}
theorem IT (S:Sz P s K) (h:iy P T) (hq:(P.n+1)*K*FB P.n K<10 ^ q) {c0 c:Rat} {u0 g:Nat->Rat} (h0:ZB K (s*c0)) (hu:∀ k,k<P.n->ZB K (s*u0 k))
    (he:∀ x:Nat->Rat,c0+bD P.n (fun k=>u0 k*x k)=c+bD P.n (fun j=>g j*P.val x (T.o j))):QB q c/\∀ j,j<P.n->QB q (g j):=by
 obtain⟨e1,e2⟩:=wm (c:=c0) (d:=c+bD P.n (fun j=>g j*P.kv (T.o j))) (u:=u0) (w:=fun k=>bD P.n (fun j=>g j*P.uv (T.o j) k)) (n:=P.n) (fun x=>by
  rw[he x,Bp];grind)
 have qgB:∀ g':Nat->Rat,(∀ k,k<P.n->bD P.n (fun j=>g' j*P.uv (T.o j) k)=0)->∀ j,j<P.n->g' j=0:=fun g' hg j hj=>by
  obtain⟨x,hx⟩:=h.surj (fun i=>if i=j then 1 else 0);obtain⟨z,hz⟩:=h.surj (fun _=>0);have a1:=Bp P T.o g' x;have a2:=Bp P T.o g' z;rw[gZ hj _ (fun i hi c8=>by rw[hx i hi,if_neg c8];grind),hx j hj,if_pos rfl,cj (g:=fun k=>bD P.n (fun j=>g' j*P.uv (T.o j) k)*x k) (fun k hk=>by rw[hg k hk];grind)] at a1;rw[cj (fun i hi=>by rw[hz i hi];grind),cj (g:=fun k=>bD P.n (fun j=>g' j*P.uv (T.o j) k)*z k) (fun k hk=>by rw[hg k hk];grind)] at a2;grind
 have hsm:∀ (g':Nat->Rat) (k:Nat),bD P.n (fun j=>g' j*(s*P.uv (T.o j) k))=s*bD P.n (fun j=>g' j*P.uv (T.o j) k):=fun g' k=>by
  rw[← dB];exact bN (fun j hj=>by grind)
 obtain⟨D,d0,d1,d2⟩:=crd P.n K P.n (fun j k=>s*P.uv (T.o j) k) (fun k=>s*u0 k) g S.one (fun j hj k hk=>S.uv (h.ol j hj) hk) hu
  (fun k hk=>by rw[hsm,e2 k hk])
  (fun g' hg=>qgB g' (fun k hk=>by
   have:=hg k hk;rw[hsm] at this;exact(Rat.mul_eq_zero.1 this).resolve_left S.nz))
 have hK:=S.one;have hG:FB P.n K<=(P.n+1)*K*FB P.n K:=Nat.le_mul_of_pos_left _ (Nat.mul_pos ae ae);refine⟨?_,fun j hj=>ZB.qb d0 d1 (d2 j hj) ae⟩;refine ZB.qb (D:=D*s) (G:=(P.n+1)*K*FB P.n K) (fun h=>(Rat.mul_eq_zero.1 h).elim d0 S.nz) ((d1.mul S.sb).mono ?_) ?_ hq
 ·rw[Nat.mul_comm (FB P.n K) K,Nat.mul_assoc];exact Nat.le_mul_of_pos_left _ ae
 ·have h1:D*s*c=D*(s*c0)+-(bD P.n (fun j=>D*g j*(s*P.kv (T.o j)))):=by
   have h2:bD P.n (fun j=>D*g j*(s*P.kv (T.o j)))=D*s*bD P.n (fun j=>g j*P.kv (T.o j)):=by rw[← dB];exact bN (fun j hj=>by grind)
   rw[h2,e1];generalize bD P.n (fun j=>g j*P.kv (T.o j))=R;grind
  rw[h1];refine((d1.mul h0).add (ZB.sum (fun j hj=>(d2 j hj).mul (S.kv (h.ol j hj)))).neg).mono ?_;rw[Nat.mul_assoc,Nat.mul_comm K (FB P.n K),Nat.add_mul,Nat.one_mul];omega
theorem V9(S:Sz P s K)(h:iy P T)(hq:(P.n+1)*K*FB P.n K<10 ^ q):TQ P T q:=by
 have hl:∀ i,i<P.m->QB q (T.c i)/\∀ j,j<P.n->QB q (T.f i j):=fun i hi =>
  IT S h hq (S.kv (h.bl i hi)) (fun k hk=>S.uv (h.bl i hi) hk) (fun x=>by rw[← Mg];exact h.line i hi x)
 have hw:QB q T.wc/\∀ j,j<P.n->QB q (T.wf j):=IT (c0:=0) (u0:=P.C) S h hq (by rw[Rat.mul_zero];exact ZB.zero _) S.C (fun x=>by
  rw[← h.worth x];simp only[LP.obj];grind)
 exact⟨fun i hi=>(hl i hi).1,fun i hi=>(hl i hi).2,hw.1,hw.2⟩
end
theorem Sz.szf{P:LP}{s:Rat}{K q:Nat}(S:Sz P s K)(hq:(P.n+1)*K*FB P.n K<10 ^ q):Vm P q:=fun _ h=>V9 S h hq
end Go.Proofs.YtmahadmefplbnaaGreatDoor
namespace Go.Proofs.YtmahadmefplbnaaGreatDoor
theorem yY{s:bT->bT}{halt:bT->Prop}(hs:∀ T,halt T->s T=T){N:Nat}{T:bT}(h:halt (wH s N T)):∀ d,wH s (N+d) T=wH s N T
 | 0=>rfl
 | d+1=>by
  have ih:=yY hs h d;show s (wH s (N+d) T)=_;rw[ih];exact hs _ h
theorem NZ{s:bT->bT}{halt:bT->Prop}(hs:∀ T,halt T->s T=T){N k:Nat}{T:bT}(h:halt (wH s N T))(hk:¬ halt (wH s k T)):k<N:=by
 rcases Nat.lt_or_ge k N with h'|h'
 ·exact h'
 ·exfalso;have e:=yY hs h (k-N);rw[show N+(k-N)=k by omega] at e;exact hk (by rw[e];exact h)
section
variable {P:LP} {T:bT}
structure Bad(P:LP)(T:bT)(r:Nat):Prop where
 lt:r<P.m
 slack:P.n<=T.b r
 neg:T.c r<0
 all:∀ j,j<P.n->P.n<=T.o j->T.f r j<=0
theorem MQ(h:P.qp T<0):Pos P T:=by
 rcases sM P T with⟨_,h2⟩|⟨r,_,h2,_⟩
 ·exact h2
 ·omega
theorem Tt{r:Nat}(h1:r<P.m)(h2:P.n<=T.b r)(h3:T.c r<0)(h:P.LX T r<0):Bad P T r:=by
 rcases xB P T r with⟨_,g⟩|⟨a,_,g,_⟩
 ·exact⟨h1,h2,h3,g⟩
 ·omega
theorem Ms{r a:Nat}(h1:P.qp T=(r:Int))(h2:P.LX T r=(a:Int)):¬ P.oz T/\P.kC T=T.bu r a:=by
 have hn:¬ P.oz T:=by unfold LP.oz;rw[h1,Int.toNat_natCast,h2];omega
 refine⟨hn,?_⟩;unfold LP.kC;unfold LP.oz at hn;rw[if_neg hn,h1,Int.toNat_natCast,h2,Int.toNat_natCast]
theorem Tr(h:P.atU T<0):WZ P T:=by
 rcases EI P T with⟨_,h2⟩|⟨r,_,h2,_⟩
 ·exact h2
 ·omega
theorem Ts(h:P.Ho T<0):∀ j,j<P.n->P.n<=T.o j->0<=T.wf j:=by
 rcases xA P T with⟨_,h2⟩|⟨r,_,h2,_⟩
 ·exact h2
 ·omega
theorem W9{a:Nat}(h:P.lv T a P.m<0):∀ i,i<P.m->P.n<=T.b i->0<=T.f i a:=by
 rcases uz P T a P.m with⟨_,h2⟩|⟨r,_,h2,_⟩
 ·exact h2
 ·omega
theorem Mr{r a:Nat}(h1:P.Ho T=(a:Int))(h2:P.lv T a P.m=(r:Int)):¬ P.oy T/\P.kB T=T.bu r a:=by
 have hn:¬ P.oy T:=by unfold LP.oy;rw[h1,Int.toNat_natCast,h2];omega
 refine⟨hn,?_⟩;unfold LP.kB;unfold LP.oy at hn;rw[if_neg hn,h1,Int.toNat_natCast,h2,Int.toNat_natCast]
end
