/- Part 1. -/
import Derived.Test.YtmahadmefplbnaaGreatDoorQVLA
import Derived.Lib.ItoaNum
import Derived.Lib.Atoi
import Derived.Lib.AtoiAll
set_option maxRecDepth 100000
set_option maxHeartbeats 2000000
namespace Go.Proofs.YtmahadmefplbnaaGreatDoor
open Go
def fN(b:UInt8):Bool:=48<=b && b<=57
theorem eE(b:UInt8):fN b=true ↔ 48<=b.toNat/\b.toNat<=57:=by
 unfold fN;simp[UInt8.le_iff_toNat_le]
def dd(acc:Nat)(l:List UInt8):Nat:=l.foldl (fun a b=>a*10+(b.toNat-48)) acc
abbrev val(l:List UInt8):Nat:=dd 0 l
theorem tA(a:Nat):dd a []=a:=by unfold dd;rw[List.foldl_nil]
theorem kk(a:Nat)(b:UInt8)(l:List UInt8):dd a (b :: l)=dd (a*10+(b.toNat-48)) l:=by
 unfold dd;rw[List.foldl_cons]
theorem u5(a:Nat)(l m:List UInt8):dd a (l ++ m)=dd (dd a l) m:=by
 unfold dd;rw[List.foldl_append]
theorem uZ(l:List UInt8):∀ a,dd a l=a*10 ^ l.length+dd 0 l:=by
 induction l with
 | nil=>intro a;simp[dd]
 | cons b t ih =>
  intro a;rw[kk,kk,ih (a*10+(b.toNat-48)),ih (0*10+(b.toNat-48)),List.length_cons,Nat.pow_succ,Nat.add_mul,Nat.zero_mul,Nat.zero_add,Nat.mul_assoc,Nat.mul_comm 10,Nat.add_assoc]
theorem eO(l m:List UInt8):val (l ++ m)=val l*10 ^ m.length+val m:=by
 show dd 0 (l ++ m)=_;rw[u5,uZ m]
theorem gG(b:UInt8):val [b]=b.toNat-48:=by simp[val,dd]
theorem Fl(l:List UInt8)(h:∀ b ∈ l,fN b=true):val l<10 ^ l.length:=by
 induction l with
 | nil=>simp[val,dd]
 | cons b t ih =>
  have hb:=(eE b).1 (h b (by simp));have ht:=ih (fun c hc=>h c (by simp[hc]));have e:val (b :: t)=(b.toNat-48)*10 ^ t.length+val t:=by
   have:=eO [b] t;simpa[gG] using this
  rw[e,List.length_cons,Nat.pow_succ];have:(b.toNat-48)*10 ^ t.length<=9*10 ^ t.length:=Nat.mul_le_mul_right _ ae;omega
theorem Ej(l:List UInt8)(h:∀ b ∈ l,fN b=true):∀ a,Lib.decFrom a l=some (dd a l):=by
 induction l with
 | nil=>intro a;rfl
 | cons b t ih =>
  intro a;have hb:=(eE b).1 (h b (by simp));have e:Lib.digitVal b=some (b.toNat-48):=by unfold Lib.digitVal;rw[if_pos hb]
  simp only[Lib.decFrom,e];exact ih (fun c hc=>h c (by simp[hc])) _
theorem nw(d:Nat)(h:d<10):(UInt8.ofNat (48+d)).toNat=48+d:=by
 simp[UInt8.toNat_ofNat'];omega
theorem di(u:Nat):∀ b ∈ Lib.decDigits u,fN b=true:=by
 induction u using Nat.strongRecOn with
 | _ u ih =>
  intro b hb;by_cases h:u<10
  ·rw[Lib.decDigits,dif_pos h] at hb;simp only[List.mem_singleton] at hb;subst hb;rw[eE,nw u h];omega
  ·rw[Lib.decDigits,dif_neg h] at hb;rcases List.mem_append.1 hb with hb|hb
   ·exact ih (u / 10) ae b hb
   ·simp only[List.mem_singleton] at hb;subst hb;rw[eE,nw _ (Nat.mod_lt _ af)];omega
theorem gB(u:Nat):val (Lib.decDigits u)=u:=by
 induction u using Nat.strongRecOn with
 | _ u ih =>
  by_cases h:u<10
  ·rw[Lib.decDigits,dif_pos h,gG,nw u h];omega
  ·rw[Lib.decDigits,dif_neg h,eO,ih (u / 10) ae,gG,nw _ (Nat.mod_lt _ af)];simp;omega
theorem Bl{a b:Nat}(h:Lib.decDigits a=Lib.decDigits b):a=b:=by
 rw[← gB a,← gB b,h]
theorem kN(u:Nat):Lib.decDigits u≠[]:=by
 intro h;have:=Lib.decDigits_length u;have h2:=Lib.nDigits_pos u;rw[h] at this;simp at this;omega
theorem jV(u:Nat):0<(Lib.decDigits u).length:=List.length_pos_iff.2 (kN u)
theorem ny(u:Nat):u<10 ^ (Lib.decDigits u).length:=by
 rw[Lib.decDigits_length];exact Lib.lt_pow_nDigits u
theorem xi(u:Nat)(h:u≠0):10 ^ ((Lib.decDigits u).length-1)<=u:=by
 induction u using Nat.strongRecOn with
 | _ u ih =>
  by_cases h1:u<10
  ·rw[Lib.decDigits,dif_pos h1];simp;omega
  ·have:=ih (u / 10) ae ae;have hp:=jV (u / 10);rw[Lib.decDigits,dif_neg h1];simp only[List.length_append,List.length_singleton,Nat.add_sub_cancel];obtain⟨k,hk⟩:∃ k,(Lib.decDigits (u / 10)).length=k+1:=⟨_,(Nat.succ_pred_eq_of_pos hp).symm⟩
   rw[hk] at this ⊢;rw[Nat.pow_succ];simp at this;omega
theorem dJ{u k:Nat}(hk:0<k)(h:u<10 ^ k):(Lib.decDigits u).length<=k:=by
 by_cases h0:u=0
 ·subst h0;rw[Lib.decDigits,dif_pos af];exact hk
 ·have h1:=xi u h0;by_cases hc:(Lib.decDigits u).length<=k
  ·exact hc
  ·exfalso;have:10 ^ k<=10 ^ ((Lib.decDigits u).length-1):=Nat.pow_le_pow_right af ae;omega
theorem cC{u k:Nat}(h:(Lib.decDigits u).length<=k):u<10 ^ k :=
 Nat.lt_of_lt_of_le (ny u) (Nat.pow_le_pow_right af h)
theorem mm(u:Nat)(h:u≠0):∃ b t,Lib.decDigits u=b :: t/\b≠48:=by
 induction u using Nat.strongRecOn with
 | _ u ih =>
  by_cases h1:u<10
  ·refine⟨_,[],by rw[Lib.decDigits,dif_pos h1],?_⟩;intro e;have:=nw u h1;rw[e] at this;simp at this;omega
  ·obtain⟨b,t,e,hb⟩:=ih (u / 10) ae ae;exact⟨b,t ++ [UInt8.ofNat (48+u % 10)],by rw[Lib.decDigits,dif_neg h1,e];rfl,hb⟩
theorem kK:Lib.decDigits 0=[48]:=by rw[Lib.decDigits,dif_pos af];rfl
theorem sd:Lib.decDigits 1=[49]:=by rw[Lib.decDigits,dif_pos af];rfl
theorem iG(l:List UInt8)(c8:l≠[])(h:∀ b ∈ l,fN b=true)(h0:l.head?≠some 48∨l=[48]):Lib.decDigits (val l)=l:=by
 induction hn:l.length using Nat.strongRecOn generalizing l with
 | _ n ih =>
  by_cases h1:l.length=1
  ·obtain⟨b,rfl⟩:=List.length_eq_one_iff.1 h1;have hb:=(eE b).1 (h b (by simp));rw[gG,Lib.decDigits,dif_pos ae]
   congr 1
   apply UInt8.toNat_inj.1;rw[nw _ ae];omega
  ·have hlen:2<=l.length:=by
    have:=List.length_pos_iff.2 c8;omega
   obtain⟨m,b,rfl⟩:∃ m b,l=m ++ [b]:=⟨l.dropLast,l.getLast c8,(List.dropLast_concat_getLast c8).symm⟩
   have hm:m≠[]:=by intro e;subst e;simp at hlen
   have hb:=(eE b).1 (h b (by simp));have hd:∀ c ∈ m,fN c=true:=fun c hc=>h c (by simp[hc])
   have On:m.head?≠some 48:=by
    rcases h0 with h0|h0
    ·intro e;apply h0;rw[List.head?_append,e];rfl
    ·cases m with
     | nil=>exact absurd rfl hm
     | cons x y=>simp at h0
   have im:=ih m.length (by subst hn;simp) m hm hd (Or.inl On) rfl;have SJ:val m≠0:=by
    intro e;rw[e,kK] at im;rw[← im] at On;simp at On
   rw[eO,gG];simp only[List.length_singleton,Nat.pow_one];rw[Lib.decDigits,dif_neg ae];rw[show(val m*10+(b.toNat-48)) / 10=val m by omega,im]
   congr 2
   apply UInt8.toNat_inj.1;rw[nw _ (Nat.mod_lt _ af)];omega
theorem yG(k:Nat)(l:List UInt8):val (List.replicate k 48 ++ l)=val l:=by
 induction k with
 | zero=>simp
 | succ k ih=>rw[List.replicate_succ,List.cons_append];show dd 0 _=_;rw[kk];exact ih
def zl(n:Int):List UInt8:=Lib.itoa n
def zs(n:Int):ByteArray:=⟨(zl n).toArray⟩
theorem dA(n:Int):(zs n).data.toList=zl n:=by simp[zs]
theorem gA(n:Int):(zs n).size=(zl n).length:=by simp[zs,ByteArray.size]
theorem dM{n:Int}(h:n<0):zl n=45 :: Lib.decDigits n.natAbs:=by unfold zl Lib.itoa;rw[if_pos h]
theorem dR{n:Int}(h:0<=n):zl n=Lib.decDigits n.natAbs:=by
 unfold zl Lib.itoa;rw[if_neg ae];congr 1;omega
theorem fS(n:Nat):zl (n:Int)=Lib.decDigits n:=by rw[dR ae];rfl
theorem L8:zl 0=[48]:=by rw[dR af];exact kK
theorem L7:zl 1=[49]:=by rw[dR af];exact sd
theorem yV{b:UInt8}(h:fN b=true):b≠45:=by
 intro e;subst e;simp[fN] at h
theorem gw(u:Nat)(t:List UInt8):Lib.decDigits u≠45 :: t:=by
 intro e;exact yV (di u 45 (by rw[e];simp)) rfl
theorem mH{a b:Int}(h:zl a=zl b):a=b:=by
 by_cases ha:a<0 <;> by_cases hb:b<0
 ·rw[dM ha,dM hb] at h;have:=Bl (List.cons.inj h).2;omega
 ·rw[dM ha,dR ae] at h;exact absurd h.symm (gw _ _)
 ·rw[dR ae,dM hb] at h;exact absurd h (gw _ _)
 ·rw[dR ae,dR ae] at h;have:=Bl h;omega
theorem dW{s t:ByteArray}(h:s.data.toList=t.data.toList):s=t:=by
 cases s;cases t;congr 1;exact Array.toList_inj.1 h
theorem Ci(n:Int):zl n≠[]:=by
 by_cases h:n<0
 ·rw[dM h];simp
 ·rw[dR ae];exact kN _
theorem lf{n:Int}:(zl n).head?=some 45 ↔ n<0:=by
 by_cases h:n<0
 ·rw[dM h];simp[h]
 ·rw[dR ae];constructor
  ·intro e;cases hd:Lib.decDigits n.natAbs with
   | nil=>exact absurd hd (kN _)
   | cons b t =>
    rw[hd] at e;simp at e;subst e;exact absurd hd (gw _ _)
  ·intro h';omega
theorem jr{n:Int}{k:Nat}(hk:0<k)(h:n.natAbs<10 ^ k):(zl n).length<=k+1:=by
 have:=dJ hk h;by_cases h:n<0
 ·rw[dM h];simp;omega
 ·rw[dR ae];omega
theorem dU{n:Int}{k:Nat}(h:(zl n).length<=k):n.natAbs<10 ^ k:=by
 apply cC;by_cases h':n<0
 ·rw[dM h'] at h;simp at h;omega
 ·rw[dR ae] at h;omega
def Mi(l:List UInt8):List UInt8:=match l with
 | 45 :: t=>t
 | l=>l
theorem J8(n:Int):Mi (zl n)=Lib.decDigits n.natAbs:=by
 by_cases h:n<0
 ·rw[dM h];rfl
 ·rw[dR ae];cases hd:Lib.decDigits n.natAbs with
  | nil=>rfl
  | cons b t =>
   have:b≠45:=fun e=>gw _ _ (by rw[hd,e])
   unfold Mi;split
   ·simp_all
   ·rfl
theorem xk(u:Nat):Lib.decNat (Lib.decDigits u)=some u:=by
 unfold Lib.decNat;rw[if_neg (by simp[kN]),Ej _ (di u)]
 congr 1
 exact gB u
end Go.Proofs.YtmahadmefplbnaaGreatDoor
namespace Go.Proofs.YtmahadmefplbnaaGreatDoor
def mv(B:Nat):List Nat->Nat
 | []=>0
 | x :: t=>x+B*mv B t
theorem jA(B:Nat)(l m:List Nat):mv B (l ++ m)=mv B l+B ^ l.length*mv B m:=by
 induction l with
 | nil=>simp[mv]
 | cons x t ih =>
  simp only[List.cons_append,mv,ih,List.length_cons,Nat.pow_succ];rw[Nat.mul_add,Nat.add_assoc,Nat.mul_comm (B ^ t.length) B,Nat.mul_assoc]
theorem gP(B x:Nat):mv B [x]=x:=by simp[mv]
theorem jJ(B:Nat)(l:List Nat)(x:Nat):mv B (l ++ [x])=mv B l+B ^ l.length*x:=by
 rw[jA,gP]
theorem iQ(B:Nat)(l:List Nat)(i:Nat)(h:i<l.length):mv B (l.take (i+1))=mv B (l.take i)+B ^ i*l[i]:=by
 rw[List.take_succ_eq_append_getElem h,jJ,List.length_take,Nat.min_eq_left (Nat.le_of_lt h)]
def bK(B:Nat)(l:List Nat):Prop:=∀ x ∈ l,x<B
theorem pX{B:Nat}{l:List Nat}(h:bK B l):mv B l<B ^ l.length:=by
 induction l with
 | nil=>simp[mv]
 | cons x t ih =>
  have hx:=h x (by simp);have ht:=ih (fun y hy=>h y (by simp[hy]));simp only[mv,List.length_cons,Nat.pow_succ];have:B*(mv B t+1)<=B*B ^ t.length:=Nat.mul_le_mul_left _ ht;rw[Nat.mul_comm (B ^ t.length)];rw[Nat.mul_add] at this;omega
theorem wg(B k:Nat):mv B (List.replicate k 0)=0:=by
 induction k with
 | zero=>rfl
 | succ k ih=>simp[List.replicate_succ,mv,ih]
structure Canon(B:Nat)(l:List Nat):Prop where
 lt:bK B l
 last:l.getLast?≠some 0
theorem Canon.nil(B:Nat):Canon B []:=⟨fun _ h=>by simp at h,by simp⟩
theorem Canon.ge{B:Nat}{l:List Nat}(h:Canon B l)(c8:l≠[]):B ^ (l.length-1)<=mv B l:=by
 obtain⟨m,x,rfl⟩:∃ m x,l=m ++ [x]:=⟨l.dropLast,l.getLast c8,(List.dropLast_concat_getLast c8).symm⟩
 have hx:x≠0:=by intro e;subst e;exact h.last (by simp)
 rw[jJ];simp only[List.length_append,List.length_singleton,Nat.add_sub_cancel];have:B ^ m.length*1<=B ^ m.length*x:=Nat.mul_le_mul_left _ ae;omega
theorem Canon.pos{B:Nat}{l:List Nat}(hB:0<B)(h:Canon B l)(c8:l≠[]):0<mv B l :=
 Nat.lt_of_lt_of_le (Nat.pow_pos hB) (h.ge c8)
theorem Canon.lu{B:Nat}{l:List Nat}(hB:0<B)(h:Canon B l)(h0:mv B l=0):l=[]:=by
 by_cases c8:l=[]
 ·exact c8
 ·have:=h.pos hB c8;omega
theorem Canon.l8{B:Nat}{l m:List Nat}(hB:0<B)(hl:Canon B l)(hm:Canon B m)(h:l.length<m.length):mv B l<mv B m:=by
 have h1:=pX hl.lt;have c8:m≠[]:=by intro e;subst e;simp at h
 have h2:=hm.ge c8;have h3:B ^ l.length<=B ^ (m.length-1):=Nat.pow_le_pow_right hB ae;omega
theorem rH {B:Nat} {l m:List Nat} {i:Nat} (hl:bK B l) (hlen:l.length=m.length) (hi:i<l.length)
    (hd:l.drop (i+1)=m.drop (i+1)) (aP:l[i]<m[i]):mv B l<mv B m:=by
 have el:l=l.take i ++ (l[i] :: l.drop (i+1)):=by rw[← List.drop_eq_getElem_cons hi,List.take_append_drop]
 have em:m=m.take i ++ (m[i] :: m.drop (i+1)):=by rw[← List.drop_eq_getElem_cons ae,List.take_append_drop]
 have e1:mv B l=mv B (l.take i)+B ^ i*(l[i]+B*mv B (l.drop (i+1))):=by
  conv=>lhs;rw[el]
  rw[jA,List.length_take,Nat.min_eq_left ae];rfl
 have e2:mv B m=mv B (m.take i)+B ^ i*(m[i]+B*mv B (m.drop (i+1))):=by
  conv=>lhs;rw[em]
  rw[jA,List.length_take,Nat.min_eq_left ae];rfl
 have h1:mv B (l.take i)<B ^ i:=by
  have:=pX (l:=l.take i) (B:=B) (fun x hx=>hl x (List.mem_of_mem_take hx));rwa[List.length_take,Nat.min_eq_left ae] at this
 rw[e1,e2,hd];generalize mv B (m.drop (i+1))=t;generalize mv B (l.take i)=u at *;generalize mv B (m.take i)=v;have:B ^ i*(l[i]+B*t+1)<=B ^ i*(m[i]+B*t):=Nat.mul_le_mul_left _ ae;rw[Nat.mul_add _ _ 1] at this;omega
theorem Canon.unique{B:Nat}(hB:0<B):∀ {l m:List Nat},Canon B l->Canon B m->mv B l=mv B m->l=m
 | [],m,_,hm,h=>(hm.lu hB (by rw[← h];rfl)).symm
 | x :: t,[],hl,_,h=>absurd (hl.lu hB h) (by simp)
 | x :: t,y :: s,hl,hm,h=>by
  have hx:=hl.lt x (by simp);have hy:=hm.lt y (by simp);simp only[mv] at h;have hxy:x=y:=by
   have h1:(x+B*mv B t) % B=x:=by rw[Nat.add_mul_mod_self_left,Nat.mod_eq_of_lt hx]
   have h2:(y+B*mv B s) % B=y:=by rw[Nat.add_mul_mod_self_left,Nat.mod_eq_of_lt hy]
   rw[← h1,← h2,h]
  subst hxy;have DE:mv B t=mv B s:=Nat.eq_of_mul_eq_mul_left hB ae;have ct:Canon B t:=⟨fun z hz=>hl.lt z (by simp[hz]),fun e=>hl.last (by rw[List.getLast?_cons];simp[e])⟩
  have cs:Canon B s:=⟨fun z hz=>hm.lt z (by simp[hz]),fun e=>hm.last (by rw[List.getLast?_cons];simp[e])⟩
  rw[Canon.unique hB ct cs DE]
theorem Is {B:Nat} {l:List Nat} {k:Nat} (hk:k<=l.length) (hl:bK B l) (hz:∀ i (h:i<l.length),k<=i->l[i]=0)
    (rS:k=0∨∃ h:k-1<l.length,l[k-1]≠0):Canon B (l.take k)/\mv B (l.take k)=mv B l:=by
 refine⟨⟨fun x hx=>hl x (List.mem_of_mem_take hx),?_⟩,?_⟩
 ·rcases rS with h|⟨h1,h2⟩
  ·subst h;simp
  ·by_cases h0:k=0
   ·subst h0;simp
   ·rw[List.getLast?_eq_getElem?,List.length_take,Nat.min_eq_left hk,List.getElem?_take,if_pos ae,List.getElem?_eq_getElem h1];simpa using h2
 ·have e:l.drop k=List.replicate (l.length-k) 0:=by
   apply List.ext_getElem
   ·simp
   ·intro i h1 h2;simp at h1 h2 ⊢;exact hz _ _ ae
  conv=>rhs;rw[← List.take_append_drop k l,jA,e,wg]
  simp
theorem mP{B:Nat}{l:List Nat}{k:Nat}(hB:1<B)(h:Canon B l)(hv:mv B l<B ^ k):l.length<=k:=by
 by_cases c8:l=[]
 ·subst c8;simp
 ·have h1:=h.ge c8;by_cases hc:l.length<=k
  ·exact hc
  ·have:B ^ k<=B ^ (l.length-1):=Nat.pow_le_pow_right ae ae;omega
end Go.Proofs.YtmahadmefplbnaaGreatDoor
namespace Go.Proofs.YtmahadmefplbnaaGreatDoor
theorem fX(B:Nat)(l:List Nat)(i:Nat):mv B (l.take (i+1))=mv B (l.take i)+B ^ i*l.getD i 0:=by
 by_cases h:i<l.length
 ·rw[iQ B l i h];simp[h]
 ·rw[List.take_of_length_le ae,List.take_of_length_le ae];simp[show l[i]?=none from List.getElem?_eq_none ae]
theorem nt{B:Nat}{l:List Nat}(hB:0<B)(h:bK B l)(i:Nat):l.getD i 0<B:=by
 by_cases hi:i<l.length
 ·simp[hi];exact h _ (List.getElem_mem hi)
 ·simp[show l[i]?=none from List.getElem?_eq_none ae];exact hB
theorem nB{B x:Nat}{l:List Nat}(h:bK B l)(hx:x<B):bK B (l ++ [x]):=by
 intro y hy;rcases List.mem_append.1 hy with hy|hy
 ·exact h y hy
 ·simp at hy;subst hy;exact hx
theorem xu{B:Nat}{l:List Nat}(h:bK B l)(k:Nat):bK B (l.take k):=fun x hx=>h x (List.mem_of_mem_take hx)
structure jP(B:Nat)(a b out:List Nat)(i carry:Nat):Prop where
 len:out.length=i
 lt:bK B out
 cle:carry<=1
 sum:mv B out+B ^ i*carry=mv B (a.take i)+mv B (b.take i)
theorem jP.start(B:Nat)(a b:List Nat):jP B a b [] 0 0:=⟨rfl,by intro x hx;simp at hx,ae,by simp[mv]⟩
theorem jP.step {B:Nat} {a b out:List Nat} {i carry:Nat} (hB:1<B) (ha:bK B a) (hb:bK B b) (h:jP B a b out i carry) :
    jP B a b (out ++ [(carry+a.getD i 0+b.getD i 0) % B]) (i+1) ((carry+a.getD i 0+b.getD i 0) / B):=by
 have h1:=nt ae ha i;have h2:=nt ae hb i;have hc:=h.cle;refine⟨by simp[h.len],nB h.lt (Nat.mod_lt _ ae),?_,?_⟩
 ·have:(carry+a.getD i 0+b.getD i 0) / B<2:=Nat.div_lt_of_lt_mul ae;omega
 ·rw[jJ,h.len,fX,fX];have hs:=h.sum;have e:=Nat.div_add_mod (carry+a.getD i 0+b.getD i 0) B;generalize (carry+a.getD i 0+b.getD i 0) % B=r at *;generalize (carry+a.getD i 0+b.getD i 0) / B=q at *;have e2:B ^ i*(B*q+r)=B ^ i*(carry+a.getD i 0+b.getD i 0):=by rw[e]
  rw[Nat.pow_succ];generalize B ^ i=p at *;generalize a.getD i 0=x at *;generalize b.getD i 0=y at *;simp only[Nat.mul_add,Nat.mul_assoc] at e2 hs ⊢;omega
theorem jP.done {B:Nat} {a b out:List Nat} {carry:Nat} (hB:1<B) (hlen:b.length<=a.length) (h:jP B a b out a.length carry) :
    bK B (out ++ [carry])/\mv B (out ++ [carry])=mv B a+mv B b:=by
 refine⟨nB h.lt (by have:=h.cle;omega),?_⟩;have:=h.sum;rw[jJ,h.len,this,List.take_length,List.take_of_length_le hlen]
structure en(B:Nat)(a b out:List Nat)(i borrow:Nat):Prop where
 len:out.length=i
 lt:bK B out
 ble:borrow<=1
 sum:mv B out+mv B (b.take i)=mv B (a.take i)+B ^ i*borrow
theorem en.start(B:Nat)(a b:List Nat):en B a b [] 0 0:=⟨rfl,by intro x hx;simp at hx,ae,by simp[mv]⟩
theorem en.tB {B:Nat} {a b out:List Nat} {i borrow:Nat} (hB:1<B) (ha:bK B a) (hb:bK B b) (h:en B a b out i borrow)
    (aP:a.getD i 0<borrow+b.getD i 0):en B a b (out ++ [a.getD i 0+B-(borrow+b.getD i 0)]) (i+1) 1:=by
 have h1:=nt ae ha i;have h2:=nt ae hb i;have hc:=h.ble;refine⟨by simp[h.len],nB h.lt ae,ae,?_⟩;rw[jJ,h.len,fX,fX];have hs:=h.sum;obtain⟨d,hd⟩:∃ d,d=a.getD i 0+B-(borrow+b.getD i 0):=⟨_,rfl⟩
 have e:d+(borrow+b.getD i 0)=a.getD i 0+B:=ae;rw[← hd];have e2:B ^ i*(d+(borrow+b.getD i 0))=B ^ i*(a.getD i 0+B):=by rw[e]
 rw[Nat.pow_succ];generalize B ^ i=p at *;generalize a.getD i 0=x at *;generalize b.getD i 0=y at *;simp only[Nat.mul_add] at e2 hs ⊢;omega
theorem en.vA {B:Nat} {a b out:List Nat} {i borrow:Nat} (hB:1<B) (ha:bK B a) (h:en B a b out i borrow)
    (kx:borrow+b.getD i 0<=a.getD i 0):en B a b (out ++ [a.getD i 0-(borrow+b.getD i 0)]) (i+1) 0:=by
 have h1:=nt ae ha i;refine⟨by simp[h.len],nB h.lt ae,ae,?_⟩;rw[jJ,h.len,fX,fX];have hs:=h.sum;obtain⟨d,hd⟩:∃ d,d=a.getD i 0-(borrow+b.getD i 0):=⟨_,rfl⟩
 have e:d+(borrow+b.getD i 0)=a.getD i 0:=ae;rw[← hd];have e2:B ^ i*(d+(borrow+b.getD i 0))=B ^ i*a.getD i 0:=by rw[e]
 generalize B ^ i=p at *;generalize a.getD i 0=x at *;generalize b.getD i 0=y at *;simp only[Nat.mul_add] at e2 hs ⊢;omega
theorem en.done {B:Nat} {a b out:List Nat} {borrow:Nat} (hlen:b.length<=a.length) (hle:mv B b<=mv B a) (h:en B a b out a.length borrow) :
    mv B out=mv B a-mv B b:=by
 have h1:=h.sum;have h2:=pX h.lt;have h3:=h.ble;rw[List.take_length,List.take_of_length_le hlen] at h1;rw[h.len] at h2;have:borrow=0:=by
  by_cases hb:borrow=0
  ·exact hb
  ·have:borrow=1:=ae;subst this;omega
 subst this;omega
theorem ND(B:Nat)(l:List Nat)(i x:Nat)(h:i<l.length):mv B (l.set i x)+B ^ i*l[i]=mv B l+B ^ i*x:=by
 have e1:l.set i x=l.take i ++ (x :: l.drop (i+1)):=by rw[List.set_eq_take_append_cons_drop,if_pos h]
 have e2:l=l.take i ++ (l[i] :: l.drop (i+1)):=by rw[← List.drop_eq_getElem_cons h,List.take_append_drop]
 have e3:mv B l=mv B (l.take i ++ (l[i] :: l.drop (i+1))):=by rw[← e2]
 rw[e3,e1,jA,jA,List.length_take,Nat.min_eq_left (Nat.le_of_lt h)];simp only[mv,Nat.mul_add];omega
theorem tj{B x:Nat}{l:List Nat}(h:bK B l)(i:Nat)(hx:x<B):bK B (l.set i x):=by
 intro y hy;rcases List.mem_or_eq_of_mem_set hy with hy|hy
 ·exact h y hy
 ·subst hy;exact hx
structure gR(B V x:Nat)(b out:List Nat)(i k carry:Nat):Prop where
 lt:bK B out
 cle:carry<B
 sum:mv B out+B ^ (i+k)*carry=V+B ^ i*(x*mv B (b.take k))
theorem gR.start{B V x:Nat}{b out:List Nat}{i:Nat}(hB:0<B)(h:bK B out)(hv:mv B out=V):gR B V x b out i 0 0 :=
 ⟨h,hB,by simp[mv,hv]⟩
theorem gR.step {B V x:Nat} {b out:List Nat} {i k carry:Nat} (hB:1<B) (hx:x<B) (hb:bK B b) (h:gR B V x b out i k carry) (hk:k<b.length) (hi:i+k<out.length) :
    gR B V x b (out.set (i+k) ((carry+(out[i+k]+x*b[k])) % B)) i (k+1) ((carry+(out[i+k]+x*b[k])) / B):=by
 have h1:out[i+k]<B:=h.lt _ (List.getElem_mem hi);have h2:b[k]<B:=hb _ (List.getElem_mem hk);have hc:=h.cle;have h3:x*b[k]<=(B-1)*(B-1):=Nat.mul_le_mul ae ae;obtain⟨m,rfl⟩:∃ m,B=m+1:=⟨B-1,ae⟩
 have h4:carry+(out[i+k]+x*b[k])<(m+1)*(m+1):=by
  simp only[Nat.add_sub_cancel] at h3;simp only[Nat.add_mul,Nat.mul_add];omega
 refine⟨tj h.lt _ (Nat.mod_lt _ ae),Nat.div_lt_of_lt_mul h4,?_⟩;have hs:=ND (m+1) out (i+k) ((carry+(out[i+k]+x*b[k])) % (m+1)) hi;have DF:=h.sum;rw[iQ _ b k hk];have e:=Nat.div_add_mod (carry+(out[i+k]+x*b[k])) (m+1);generalize (carry+(out[i+k]+x*b[k])) % (m+1)=r at *;generalize (carry+(out[i+k]+x*b[k])) / (m+1)=q at *;have e2:(m+1) ^ (i+k)*((m+1)*q+r)=(m+1) ^ (i+k)*(carry+(out[i+k]+x*b[k])):=by rw[e]
 have e3:(m+1) ^ i*(x*((m+1) ^ k*b[k]))=(m+1) ^ (i+k)*(x*b[k]):=by
  rw[Nat.pow_add,Nat.mul_assoc,Nat.mul_left_comm x]
 rw[Nat.mul_add x,Nat.mul_add ((m+1) ^ i),e3,show i+(k+1)=(i+k)+1 from rfl,Nat.pow_succ];generalize mv (m+1) (out.set (i+k) r)=M at *;generalize (m+1) ^ (i+k)=p at *;generalize out[i+k]=y at *;generalize x*b[k]=z at *;simp only[Nat.mul_add,← Nat.mul_assoc] at e2 hs DF ⊢;omega
theorem gR.Mt {B V x o y:Nat} {b out:List Nat} {i k carry:Nat} (hB:1<B) (hx:x<B) (hb:bK B b) (h:gR B V x b out i k carry) (hk:k<b.length) (hi:i+k<out.length)
    (ho:o=out[i+k]?.getD 0) (hy:y=b[k]?.getD 0):gR B V x b (out.set (i+k) ((carry+(o+x*y)) % B)) i (k+1) ((carry+(o+x*y)) / B):=by
 have:=h.step hB hx hb hk hi;simp only[List.getElem?_eq_getElem hi,List.getElem?_eq_getElem hk,Option.getD_some] at ho hy;subst ho;subst hy;exact this
structure eU(B V:Nat)(out:List Nat)(k carry:Nat):Prop where
 lt:bK B out
 cle:carry<B
 sum:mv B out+B ^ k*carry=V
theorem eU.step {B V:Nat} {out:List Nat} {k carry:Nat} (hB:1<B) (h:eU B V out k carry) (hk:k<out.length) :
    eU B V (out.set k ((carry+out[k]) % B)) (k+1) ((carry+out[k]) / B):=by
 have h1:out[k]<B:=h.lt _ (List.getElem_mem hk);have hc:=h.cle;refine⟨tj h.lt _ (Nat.mod_lt _ ae),?_,?_⟩
 ·have:(carry+out[k]) / B<2:=Nat.div_lt_of_lt_mul ae;omega
 ·have hs:=ND B out k ((carry+out[k]) % B) hk;have DF:=h.sum;have e:=Nat.div_add_mod (carry+out[k]) B;generalize (carry+out[k]) % B=r at *;generalize (carry+out[k]) / B=q at *;have e2:B ^ k*(B*q+r)=B ^ k*(carry+out[k]):=by rw[e]
  rw[Nat.pow_succ];generalize mv B (out.set k r)=M at *;generalize B ^ k=p at *;generalize out[k]=y at *;simp only[Nat.mul_add,← Nat.mul_assoc] at e2 hs DF ⊢;omega
theorem eU.Mt {B V o:Nat} {out:List Nat} {k carry:Nat} (hB:1<B) (h:eU B V out k carry) (hk:k<out.length) (ho:o=out[k]?.getD 0) :
    eU B V (out.set k ((carry+o) % B)) (k+1) ((carry+o) / B):=by
 have:=h.step hB hk;simp only[List.getElem?_eq_getElem hk,Option.getD_some] at ho;subst ho;exact this
theorem gR.done{B V x:Nat}{b out:List Nat}{i carry:Nat}(h:gR B V x b out i b.length carry):eU B (V+B ^ i*(x*mv B b)) out (i+b.length) carry :=
 ⟨h.lt,h.cle,by have:=h.sum;rwa[List.take_length] at this⟩
theorem eU.room{B V:Nat}{out:List Nat}{k carry n:Nat}(hB:1<B)(h:eU B V out k carry)(hc:0<carry)(hv:V<B ^ n)(hn:n<=out.length):k<out.length:=by
 have hs:=h.sum;by_cases hk:k<out.length
 ·exact hk
 ·exfalso;have h1:B ^ n<=B ^ k:=Nat.pow_le_pow_right ae ae;have h2:B ^ k*1<=B ^ k*carry:=Nat.mul_le_mul_left _ hc;omega
theorem Fx(B:Nat)(l:List Nat)(i m:Nat):mv B (l.take (i+1))*m=mv B (l.take i)*m+B ^ i*(l[i]?.getD 0*m):=by
 have:=fX B l i;rw[show l.getD i 0=l[i]?.getD 0 by simp] at this;rw[this,Nat.add_mul,Nat.mul_assoc]
theorem Xa{B d k:Nat}(hB:0<B)(h:d<B)(hk:1<=k):d<B ^ k:=by
 have:=Nat.pow_le_pow_right hB hk;rw[Nat.pow_one] at this;omega
theorem Ge{B a b m n:Nat}(ha:a<B ^ m)(hb:b<B ^ n):a*b<B ^ (m+n):=by
 rw[Nat.pow_add];by_cases h:b=0
 ·subst h;simp;exact Nat.mul_pos ae hb
 ·exact Nat.mul_lt_mul_of_lt_of_le ha (Nat.le_of_lt hb) ae
structure iz(B d:Nat)(l Q:List Nat)(j r:Nat):Prop where
 len:Q.length=l.length
 lt:bK B Q
 rem:r<d
 sum:mv B (Q.drop j)*d+r=mv B (l.drop j)
 zero:∀ i,i<j->Q[i]?.getD 0=0
theorem iz.start{B d:Nat}{l:List Nat}(hB:0<B)(hd:0<d):iz B d l (List.replicate l.length 0) l.length 0 :=
 ⟨by simp,fun x hx=>by rw[(List.mem_replicate.1 hx).2];exact hB,hd,by simp[mv],fun i hi=>by simp[hi]⟩
theorem IM{B:Nat}{l:List Nat}{i:Nat}(h:i<l.length):mv B (l.drop i)=l[i]?.getD 0+B*mv B (l.drop (i+1)):=by
 rw[List.drop_eq_getElem_cons h];simp[mv,h]
theorem iz.step {B d i r:Nat} {l Q:List Nat} (h:iz B d l Q (i+1) r) (hi:i<l.length) (hl:bK B l) (hd:0<d) :
    iz B d l (Q.set i ((r*B+l[i]?.getD 0) / d)) i ((r*B+l[i]?.getD 0) % d):=by
 have hx:l[i]?.getD 0<B:=by simpa using nt (by have:=hl l[i] (List.getElem_mem hi);omega) hl i
 have hr:=h.rem;have hlen:=h.len;have hq:(r*B+l[i]?.getD 0) / d<B:=by
  apply Nat.div_lt_of_lt_mul;have:(r+1)*B<=d*B:=Nat.mul_le_mul_right _ hr;rw[Nat.add_mul] at this;omega
 refine⟨by simp[hlen],tj h.lt _ hq,Nat.mod_lt _ hd,?_,fun k hk=>?_⟩
 ·rw[IM (l:=Q.set i _) (by simp;omega),IM hi];have e1:(Q.set i ((r*B+l[i]?.getD 0) / d)).drop (i+1)=Q.drop (i+1):=by
   rw[List.drop_set_of_lt ae]
  rw[e1];have hs:=h.sum;have e:=Nat.div_add_mod (r*B+l[i]?.getD 0) d;have e2:(Q.set i ((r*B+l[i]?.getD 0) / d))[i]?.getD 0=(r*B+l[i]?.getD 0) / d:=by
   simp[show i<Q.length by omega]
  rw[e2];generalize (r*B+l[i]?.getD 0) / d=q at *;generalize (r*B+l[i]?.getD 0) % d=s at *;generalize l[i]?.getD 0=x at *;generalize mv B (Q.drop (i+1))=m at *;rw[← hs];rw[Nat.add_mul,Nat.mul_add,Nat.mul_assoc,Nat.mul_comm q d,Nat.mul_comm B r];omega
 ·rw[List.getElem?_set_ne ae];exact h.zero k ae
theorem iz.done{B d r:Nat}{l Q:List Nat}(h:iz B d l Q 0 r):mv B Q=mv B l / d/\r=mv B l % d:=by
 have hs:=h.sum;simp only[List.drop_zero] at hs;have hd:=h.rem;rw[← hs];constructor
 ·rw[Nat.mul_comm,Nat.mul_add_div ae,Nat.div_eq_of_lt hd,Nat.add_zero]
 ·rw[Nat.mul_comm,Nat.mul_add_mod,Nat.mod_eq_of_lt hd]
