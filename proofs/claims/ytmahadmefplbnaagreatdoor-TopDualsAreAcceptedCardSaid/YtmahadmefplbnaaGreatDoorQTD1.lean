/- Part 1. -/
import Derived.Test.YtmahadmefplbnaaGreatDoorQTDA
import Derived.Lib.ItoaNum
import Derived.Lib.Atoi
import Derived.Lib.AtoiAll
set_option maxRecDepth 100000
set_option maxHeartbeats 2000000
namespace Go.Proofs.YtmahadmefplbnaaGreatDoor
open Go
def cC(b:UInt8):Bool:=48<=b && b<=57
theorem b8(b:UInt8):cC b=true ↔ 48<=b.toNat/\b.toNat<=57:=by
 unfold cC;simp[UInt8.le_iff_toNat_le]
def aZ(acc:Nat)(l:List UInt8):Nat:=l.foldl (fun a b=>a*10+(b.toNat-48)) acc
abbrev val(l:List UInt8):Nat:=aZ 0 l
theorem kD(a:Nat):aZ a []=a:=by unfold aZ;rw[List.foldl_nil]
theorem fh(a:Nat)(b:UInt8)(l:List UInt8):aZ a (b :: l)=aZ (a*10+(b.toNat-48)) l:=by
 unfold aZ;rw[List.foldl_cons]
theorem lL(a:Nat)(l m:List UInt8):aZ a (l ++ m)=aZ (aZ a l) m:=by
 unfold aZ;rw[List.foldl_append]
theorem lK(l:List UInt8):∀ a,aZ a l=a*10 ^ l.length+aZ 0 l:=by
 induction l with
 | nil=>intro a;simp[aZ]
 | cons b t ih =>
  intro a;rw[fh,fh,ih (a*10+(b.toNat-48)),ih (0*10+(b.toNat-48)),List.length_cons,Nat.pow_succ,Nat.add_mul,Nat.zero_mul,Nat.zero_add,Nat.mul_assoc,Nat.mul_comm 10,Nat.add_assoc]
theorem bS(l m:List UInt8):val (l ++ m)=val l*10 ^ m.length+val m:=by
 show aZ 0 (l ++ m)=_;rw[lL,lK m]
theorem cD(b:UInt8):val [b]=b.toNat-48:=by simp[val,aZ]
theorem oW(l:List UInt8)(h:∀ b ∈ l,cC b=true):val l<10 ^ l.length:=by
 induction l with
 | nil=>simp[val,aZ]
 | cons b t ih =>
  have hb:=(b8 b).1 (h b (by simp));have ht:=ih (fun c hc=>h c (by simp[hc]));have e:val (b :: t)=(b.toNat-48)*10 ^ t.length+val t:=by
   have:=bS [b] t;simpa[cD] using this
  rw[e,List.length_cons,Nat.pow_succ];have:(b.toNat-48)*10 ^ t.length<=9*10 ^ t.length:=Nat.mul_le_mul_right _ ae;omega
theorem rG(l:List UInt8)(h:∀ b ∈ l,cC b=true):∀ a,Lib.decFrom a l=some (aZ a l):=by
 induction l with
 | nil=>intro a;rfl
 | cons b t ih =>
  intro a;have hb:=(b8 b).1 (h b (by simp));have e:Lib.digitVal b=some (b.toNat-48):=by unfold Lib.digitVal;rw[if_pos hb]
  simp only[Lib.decFrom,e];exact ih (fun c hc=>h c (by simp[hc])) _
theorem gX(d:Nat)(h:d<10):(UInt8.ofNat (48+d)).toNat=48+d:=by
 simp[UInt8.toNat_ofNat'];omega
theorem a7(u:Nat):∀ b ∈ Lib.decDigits u,cC b=true:=by
 induction u using Nat.strongRecOn with
 | _ u ih =>
  intro b hb;by_cases h:u<10
  ·rw[Lib.decDigits,dif_pos h] at hb;simp only[List.mem_singleton] at hb;subst hb;rw[b8,gX u h];omega
  ·rw[Lib.decDigits,dif_neg h] at hb;rcases List.mem_append.1 hb with hb|hb
   ·exact ih (u / 10) ae b hb
   ·simp only[List.mem_singleton] at hb;subst hb;rw[b8,gX _ (Nat.mod_lt _ af)];omega
theorem cG(u:Nat):val (Lib.decDigits u)=u:=by
 induction u using Nat.strongRecOn with
 | _ u ih =>
  by_cases h:u<10
  ·rw[Lib.decDigits,dif_pos h,cD,gX u h];omega
  ·rw[Lib.decDigits,dif_neg h,bS,ih (u / 10) ae,cD,gX _ (Nat.mod_lt _ af)];simp;omega
theorem pU{a b:Nat}(h:Lib.decDigits a=Lib.decDigits b):a=b:=by
 rw[← cG a,← cG b,h]
theorem gr(u:Nat):Lib.decDigits u≠[]:=by
 intro h;have:=Lib.decDigits_length u;have h2:=Lib.nDigits_pos u;rw[h] at this;simp at this;omega
theorem gi(u:Nat):0<(Lib.decDigits u).length:=List.length_pos_iff.2 (gr u)
theorem nh(u:Nat):u<10 ^ (Lib.decDigits u).length:=by
 rw[Lib.decDigits_length];exact Lib.lt_pow_nDigits u
theorem ng(u:Nat)(h:u≠0):10 ^ ((Lib.decDigits u).length-1)<=u:=by
 induction u using Nat.strongRecOn with
 | _ u ih =>
  by_cases h1:u<10
  ·rw[Lib.decDigits,dif_pos h1];simp;omega
  ·have:=ih (u / 10) ae ae;have hp:=gi (u / 10);rw[Lib.decDigits,dif_neg h1];simp only[List.length_append,List.length_singleton,Nat.add_sub_cancel];obtain⟨k,hk⟩:∃ k,(Lib.decDigits (u / 10)).length=k+1:=⟨_,(Nat.succ_pred_eq_of_pos hp).symm⟩
   rw[hk] at this ⊢;rw[Nat.pow_succ];simp at this;omega
theorem bB{u k:Nat}(hk:0<k)(h:u<10 ^ k):(Lib.decDigits u).length<=k:=by
 by_cases h0:u=0
 ·subst h0;rw[Lib.decDigits,dif_pos af];exact hk
 ·have h1:=ng u h0;by_cases hc:(Lib.decDigits u).length<=k
  ·exact hc
  ·exfalso;have:10 ^ k<=10 ^ ((Lib.decDigits u).length-1):=Nat.pow_le_pow_right af ae;omega
theorem bN{u k:Nat}(h:(Lib.decDigits u).length<=k):u<10 ^ k :=
 Nat.lt_of_lt_of_le (nh u) (Nat.pow_le_pow_right af h)
theorem iH(u:Nat)(h:u≠0):∃ b t,Lib.decDigits u=b :: t/\b≠48:=by
 induction u using Nat.strongRecOn with
 | _ u ih =>
  by_cases h1:u<10
  ·refine⟨_,[],by rw[Lib.decDigits,dif_pos h1],?_⟩;intro e;have:=gX u h1;rw[e] at this;simp at this;omega
  ·obtain⟨b,t,e,hb⟩:=ih (u / 10) ae ae;exact⟨b,t ++ [UInt8.ofNat (48+u % 10)],by rw[Lib.decDigits,dif_neg h1,e];rfl,hb⟩
theorem gE:Lib.decDigits 0=[48]:=by rw[Lib.decDigits,dif_pos af];rfl
theorem lD:Lib.decDigits 1=[49]:=by rw[Lib.decDigits,dif_pos af];rfl
theorem gh(l:List UInt8)(hne:l≠[])(h:∀ b ∈ l,cC b=true)(h0:l.head?≠some 48∨l=[48]):Lib.decDigits (val l)=l:=by
 induction hn:l.length using Nat.strongRecOn generalizing l with
 | _ n ih =>
  by_cases h1:l.length=1
  ·obtain⟨b,rfl⟩:=List.length_eq_one_iff.1 h1;have hb:=(b8 b).1 (h b (by simp));rw[cD,Lib.decDigits,dif_pos ae]
   congr 1
   apply UInt8.toNat_inj.1;rw[gX _ ae];omega
  ·have hlen:2<=l.length:=by
    have:=List.length_pos_iff.2 hne;omega
   obtain⟨m,b,rfl⟩:∃ m b,l=m ++ [b]:=⟨l.dropLast,l.getLast hne,(List.dropLast_concat_getLast hne).symm⟩
   have hm:m≠[]:=by intro e;subst e;simp at hlen
   have hb:=(b8 b).1 (h b (by simp));have hd:∀ c ∈ m,cC c=true:=fun c hc=>h c (by simp[hc])
   have hhead:m.head?≠some 48:=by
    rcases h0 with h0|h0
    ·intro e;apply h0;rw[List.head?_append,e];rfl
    ·cases m with
     | nil=>exact absurd rfl hm
     | cons x y=>simp at h0
   have im:=ih m.length (by subst hn;simp) m hm hd (Or.inl hhead) rfl;have hpos:val m≠0:=by
    intro e;rw[e,gE] at im;rw[← im] at hhead;simp at hhead
   rw[bS,cD];simp only[List.length_singleton,Nat.pow_one];rw[Lib.decDigits,dif_neg ae];rw[show(val m*10+(b.toNat-48)) / 10=val m by omega,im]
   congr 2
   apply UInt8.toNat_inj.1;rw[gX _ (Nat.mod_lt _ af)];omega
theorem nS(k:Nat)(l:List UInt8):val (List.replicate k 48 ++ l)=val l:=by
 induction k with
 | zero=>simp
 | succ k ih=>rw[List.replicate_succ,List.cons_append];show aZ 0 _=_;rw[fh];exact ih
end Go.Proofs.YtmahadmefplbnaaGreatDoor
namespace Go.Proofs.YtmahadmefplbnaaGreatDoor
def mv(B:Nat):List Nat->Nat
 | []=>0
 | x :: t=>x+B*mv B t
theorem ey(B:Nat)(l m:List Nat):mv B (l ++ m)=mv B l+B ^ l.length*mv B m:=by
 induction l with
 | nil=>simp[mv]
 | cons x t ih =>
  simp only[List.cons_append,mv,ih,List.length_cons,Nat.pow_succ];rw[Nat.mul_add,Nat.add_assoc,Nat.mul_comm (B ^ t.length) B,Nat.mul_assoc]
theorem cS(B x:Nat):mv B [x]=x:=by simp[mv]
theorem eJ(B:Nat)(l:List Nat)(x:Nat):mv B (l ++ [x])=mv B l+B ^ l.length*x:=by
 rw[ey,cS]
theorem dP(B:Nat)(l:List Nat)(i:Nat)(h:i<l.length):mv B (l.take (i+1))=mv B (l.take i)+B ^ i*l[i]:=by
 rw[List.take_succ_eq_append_getElem h,eJ,List.length_take,Nat.min_eq_left (Nat.le_of_lt h)]
def aC(B:Nat)(l:List Nat):Prop:=∀ x ∈ l,x<B
theorem iw{B:Nat}{l:List Nat}(h:aC B l):mv B l<B ^ l.length:=by
 induction l with
 | nil=>simp[mv]
 | cons x t ih =>
  have hx:=h x (by simp);have ht:=ih (fun y hy=>h y (by simp[hy]));simp only[mv,List.length_cons,Nat.pow_succ];have:B*(mv B t+1)<=B*B ^ t.length:=Nat.mul_le_mul_left _ ht;rw[Nat.mul_comm (B ^ t.length)];rw[Nat.mul_add] at this;omega
theorem jQ(B k:Nat):mv B (List.replicate k 0)=0:=by
 induction k with
 | zero=>rfl
 | succ k ih=>simp[List.replicate_succ,mv,ih]
structure Canon(B:Nat)(l:List Nat):Prop where
 lt:aC B l
 last:l.getLast?≠some 0
theorem Canon.nil(B:Nat):Canon B []:=⟨fun _ h=>by simp at h,by simp⟩
theorem Canon.ge{B:Nat}{l:List Nat}(h:Canon B l)(hne:l≠[]):B ^ (l.length-1)<=mv B l:=by
 obtain⟨m,x,rfl⟩:∃ m x,l=m ++ [x]:=⟨l.dropLast,l.getLast hne,(List.dropLast_concat_getLast hne).symm⟩
 have hx:x≠0:=by intro e;subst e;exact h.last (by simp)
 rw[eJ];simp only[List.length_append,List.length_singleton,Nat.add_sub_cancel];have:B ^ m.length*1<=B ^ m.length*x:=Nat.mul_le_mul_left _ ae;omega
theorem Canon.pos{B:Nat}{l:List Nat}(hB:0<B)(h:Canon B l)(hne:l≠[]):0<mv B l :=
 Nat.lt_of_lt_of_le (Nat.pow_pos hB) (h.ge hne)
theorem Canon.eN{B:Nat}{l:List Nat}(hB:0<B)(h:Canon B l)(h0:mv B l=0):l=[]:=by
 by_cases hne:l=[]
 ·exact hne
 ·have:=h.pos hB hne;omega
theorem Canon.eB{B:Nat}{l m:List Nat}(hB:0<B)(hl:Canon B l)(hm:Canon B m)(h:l.length<m.length):mv B l<mv B m:=by
 have h1:=iw hl.lt;have hne:m≠[]:=by intro e;subst e;simp at h
 have h2:=hm.ge hne;have h3:B ^ l.length<=B ^ (m.length-1):=Nat.pow_le_pow_right hB ae;omega
theorem gR {B:Nat} {l m:List Nat} {i:Nat} (hl:aC B l) (hlen:l.length=m.length) (hi:i<l.length)
    (hd:l.drop (i+1)=m.drop (i+1)) (hlt:l[i]<m[i]):mv B l<mv B m:=by
 have el:l=l.take i ++ (l[i] :: l.drop (i+1)):=by rw[← List.drop_eq_getElem_cons hi,List.take_append_drop]
 have em:m=m.take i ++ (m[i] :: m.drop (i+1)):=by rw[← List.drop_eq_getElem_cons ae,List.take_append_drop]
 have e1:mv B l=mv B (l.take i)+B ^ i*(l[i]+B*mv B (l.drop (i+1))):=by
  conv=>lhs;rw[el]
  rw[ey,List.length_take,Nat.min_eq_left ae];rfl
 have e2:mv B m=mv B (m.take i)+B ^ i*(m[i]+B*mv B (m.drop (i+1))):=by
  conv=>lhs;rw[em]
  rw[ey,List.length_take,Nat.min_eq_left ae];rfl
 have h1:mv B (l.take i)<B ^ i:=by
  have:=iw (l:=l.take i) (B:=B) (fun x hx=>hl x (List.mem_of_mem_take hx));rwa[List.length_take,Nat.min_eq_left ae] at this
 rw[e1,e2,hd];generalize mv B (m.drop (i+1))=t;generalize mv B (l.take i)=u at *;generalize mv B (m.take i)=v;have:B ^ i*(l[i]+B*t+1)<=B ^ i*(m[i]+B*t):=Nat.mul_le_mul_left _ ae;rw[Nat.mul_add _ _ 1] at this;omega
theorem Canon.unique{B:Nat}(hB:0<B):∀ {l m:List Nat},Canon B l->Canon B m->mv B l=mv B m->l=m
 | [],m,_,hm,h=>(hm.eN hB (by rw[← h];rfl)).symm
 | x :: t,[],hl,_,h=>absurd (hl.eN hB h) (by simp)
 | x :: t,y :: s,hl,hm,h=>by
  have hx:=hl.lt x (by simp);have hy:=hm.lt y (by simp);simp only[mv] at h;have hxy:x=y:=by
   have h1:(x+B*mv B t) % B=x:=by rw[Nat.add_mul_mod_self_left,Nat.mod_eq_of_lt hx]
   have h2:(y+B*mv B s) % B=y:=by rw[Nat.add_mul_mod_self_left,Nat.mod_eq_of_lt hy]
   rw[← h1,← h2,h]
  subst hxy;have hts:mv B t=mv B s:=Nat.eq_of_mul_eq_mul_left hB ae;have ct:Canon B t:=⟨fun z hz=>hl.lt z (by simp[hz]),fun e=>hl.last (by rw[List.getLast?_cons];simp[e])⟩
  have cs:Canon B s:=⟨fun z hz=>hm.lt z (by simp[hz]),fun e=>hm.last (by rw[List.getLast?_cons];simp[e])⟩
  rw[Canon.unique hB ct cs hts]
theorem oY {B:Nat} {l:List Nat} {k:Nat} (hk:k<=l.length) (hl:aC B l) (hz:∀ i (h:i<l.length),k<=i->l[i]=0)
    (hlast:k=0∨∃ h:k-1<l.length,l[k-1]≠0):Canon B (l.take k)/\mv B (l.take k)=mv B l:=by
 refine⟨⟨fun x hx=>hl x (List.mem_of_mem_take hx),?_⟩,?_⟩
 ·rcases hlast with h|⟨h1,h2⟩
  ·subst h;simp
  ·by_cases h0:k=0
   ·subst h0;simp
   ·rw[List.getLast?_eq_getElem?,List.length_take,Nat.min_eq_left hk,List.getElem?_take,if_pos ae,List.getElem?_eq_getElem h1];simpa using h2
 ·have e:l.drop k=List.replicate (l.length-k) 0:=by
   apply List.ext_getElem
   ·simp
   ·intro i h1 h2;simp at h1 h2 ⊢;exact hz _ _ ae
  conv=>rhs;rw[← List.take_append_drop k l,ey,e,jQ]
  simp
theorem fL{B:Nat}{l:List Nat}{k:Nat}(hB:1<B)(h:Canon B l)(hv:mv B l<B ^ k):l.length<=k:=by
 by_cases hne:l=[]
 ·subst hne;simp
 ·have h1:=h.ge hne;by_cases hc:l.length<=k
  ·exact hc
  ·have:B ^ k<=B ^ (l.length-1):=Nat.pow_le_pow_right ae ae;omega
end Go.Proofs.YtmahadmefplbnaaGreatDoor
namespace Go.Proofs.YtmahadmefplbnaaGreatDoor
theorem cE(B:Nat)(l:List Nat)(i:Nat):mv B (l.take (i+1))=mv B (l.take i)+B ^ i*l.getD i 0:=by
 by_cases h:i<l.length
 ·rw[dP B l i h];simp[h]
 ·rw[List.take_of_length_le ae,List.take_of_length_le ae];simp[show l[i]?=none from List.getElem?_eq_none ae]
theorem fp{B:Nat}{l:List Nat}(hB:0<B)(h:aC B l)(i:Nat):l.getD i 0<B:=by
 by_cases hi:i<l.length
 ·simp[hi];exact h _ (List.getElem_mem hi)
 ·simp[show l[i]?=none from List.getElem?_eq_none ae];exact hB
theorem hU{B x:Nat}{l:List Nat}(h:aC B l)(hx:x<B):aC B (l ++ [x]):=by
 intro y hy;rcases List.mem_append.1 hy with hy|hy
 ·exact h y hy
 ·simp at hy;subst hy;exact hx
theorem nv{B:Nat}{l:List Nat}(h:aC B l)(k:Nat):aC B (l.take k):=fun x hx=>h x (List.mem_of_mem_take hx)
structure dp(B:Nat)(a b out:List Nat)(i carry:Nat):Prop where
 len:out.length=i
 lt:aC B out
 cle:carry<=1
 sum:mv B out+B ^ i*carry=mv B (a.take i)+mv B (b.take i)
theorem dp.start(B:Nat)(a b:List Nat):dp B a b [] 0 0:=⟨rfl,by intro x hx;simp at hx,ae,by simp[mv]⟩
theorem dp.step {B:Nat} {a b out:List Nat} {i carry:Nat} (hB:1<B) (ha:aC B a) (hb:aC B b) (h:dp B a b out i carry) :
    dp B a b (out ++ [(carry+a.getD i 0+b.getD i 0) % B]) (i+1) ((carry+a.getD i 0+b.getD i 0) / B):=by
 have h1:=fp ae ha i;have h2:=fp ae hb i;have hc:=h.cle;refine⟨by simp[h.len],hU h.lt (Nat.mod_lt _ ae),?_,?_⟩
 ·have:(carry+a.getD i 0+b.getD i 0) / B<2:=Nat.div_lt_of_lt_mul ae;omega
 ·rw[eJ,h.len,cE,cE];have hs:=h.sum;have e:=Nat.div_add_mod (carry+a.getD i 0+b.getD i 0) B;generalize (carry+a.getD i 0+b.getD i 0) % B=r at *;generalize (carry+a.getD i 0+b.getD i 0) / B=q at *;have e2:B ^ i*(B*q+r)=B ^ i*(carry+a.getD i 0+b.getD i 0):=by rw[e]
  rw[Nat.pow_succ];generalize B ^ i=p at *;generalize a.getD i 0=x at *;generalize b.getD i 0=y at *;simp only[Nat.mul_add,Nat.mul_assoc] at e2 hs ⊢;omega
theorem dp.done {B:Nat} {a b out:List Nat} {carry:Nat} (hB:1<B) (hlen:b.length<=a.length) (h:dp B a b out a.length carry) :
    aC B (out ++ [carry])/\mv B (out ++ [carry])=mv B a+mv B b:=by
 refine⟨hU h.lt (by have:=h.cle;omega),?_⟩;have:=h.sum;rw[eJ,h.len,this,List.take_length,List.take_of_length_le hlen]
structure aW(B:Nat)(a b out:List Nat)(i borrow:Nat):Prop where
 len:out.length=i
 lt:aC B out
 ble:borrow<=1
 sum:mv B out+mv B (b.take i)=mv B (a.take i)+B ^ i*borrow
theorem aW.start(B:Nat)(a b:List Nat):aW B a b [] 0 0:=⟨rfl,by intro x hx;simp at hx,ae,by simp[mv]⟩
theorem aW.il {B:Nat} {a b out:List Nat} {i borrow:Nat} (hB:1<B) (ha:aC B a) (hb:aC B b) (h:aW B a b out i borrow)
    (hlt:a.getD i 0<borrow+b.getD i 0):aW B a b (out ++ [a.getD i 0+B-(borrow+b.getD i 0)]) (i+1) 1:=by
 have h1:=fp ae ha i;have h2:=fp ae hb i;have hc:=h.ble;refine⟨by simp[h.len],hU h.lt ae,ae,?_⟩;rw[eJ,h.len,cE,cE];have hs:=h.sum;obtain⟨d,hd⟩:∃ d,d=a.getD i 0+B-(borrow+b.getD i 0):=⟨_,rfl⟩
 have e:d+(borrow+b.getD i 0)=a.getD i 0+B:=ae;rw[← hd];have e2:B ^ i*(d+(borrow+b.getD i 0))=B ^ i*(a.getD i 0+B):=by rw[e]
 rw[Nat.pow_succ];generalize B ^ i=p at *;generalize a.getD i 0=x at *;generalize b.getD i 0=y at *;simp only[Nat.mul_add] at e2 hs ⊢;omega
theorem aW.jg {B:Nat} {a b out:List Nat} {i borrow:Nat} (hB:1<B) (ha:aC B a) (h:aW B a b out i borrow)
    (hge:borrow+b.getD i 0<=a.getD i 0):aW B a b (out ++ [a.getD i 0-(borrow+b.getD i 0)]) (i+1) 0:=by
 have h1:=fp ae ha i;refine⟨by simp[h.len],hU h.lt ae,ae,?_⟩;rw[eJ,h.len,cE,cE];have hs:=h.sum;obtain⟨d,hd⟩:∃ d,d=a.getD i 0-(borrow+b.getD i 0):=⟨_,rfl⟩
 have e:d+(borrow+b.getD i 0)=a.getD i 0:=ae;rw[← hd];have e2:B ^ i*(d+(borrow+b.getD i 0))=B ^ i*a.getD i 0:=by rw[e]
 generalize B ^ i=p at *;generalize a.getD i 0=x at *;generalize b.getD i 0=y at *;simp only[Nat.mul_add] at e2 hs ⊢;omega
theorem aW.done {B:Nat} {a b out:List Nat} {borrow:Nat} (hlen:b.length<=a.length) (hle:mv B b<=mv B a) (h:aW B a b out a.length borrow) :
    mv B out=mv B a-mv B b:=by
 have h1:=h.sum;have h2:=iw h.lt;have h3:=h.ble;rw[List.take_length,List.take_of_length_le hlen] at h1;rw[h.len] at h2;have:borrow=0:=by
  by_cases hb:borrow=0
  ·exact hb
  ·have:borrow=1:=ae;subst this;omega
 subst this;omega
theorem pD(B:Nat)(l:List Nat)(i x:Nat)(h:i<l.length):mv B (l.set i x)+B ^ i*l[i]=mv B l+B ^ i*x:=by
 have e1:l.set i x=l.take i ++ (x :: l.drop (i+1)):=by rw[List.set_eq_take_append_cons_drop,if_pos h]
 have e2:l=l.take i ++ (l[i] :: l.drop (i+1)):=by rw[← List.drop_eq_getElem_cons h,List.take_append_drop]
 have e3:mv B l=mv B (l.take i ++ (l[i] :: l.drop (i+1))):=by rw[← e2]
 rw[e3,e1,ey,ey,List.length_take,Nat.min_eq_left (Nat.le_of_lt h)];simp only[mv,Nat.mul_add];omega
theorem dK{B x:Nat}{l:List Nat}(h:aC B l)(i:Nat)(hx:x<B):aC B (l.set i x):=by
 intro y hy;rcases List.mem_or_eq_of_mem_set hy with hy|hy
 ·exact h y hy
 ·subst hy;exact hx
structure cw(B V x:Nat)(b out:List Nat)(i k carry:Nat):Prop where
 lt:aC B out
 cle:carry<B
 sum:mv B out+B ^ (i+k)*carry=V+B ^ i*(x*mv B (b.take k))
theorem cw.start{B V x:Nat}{b out:List Nat}{i:Nat}(hB:0<B)(h:aC B out)(hv:mv B out=V):cw B V x b out i 0 0 :=
 ⟨h,hB,by simp[mv,hv]⟩
theorem cw.step {B V x:Nat} {b out:List Nat} {i k carry:Nat} (hB:1<B) (hx:x<B) (hb:aC B b) (h:cw B V x b out i k carry) (hk:k<b.length) (hi:i+k<out.length) :
    cw B V x b (out.set (i+k) ((carry+(out[i+k]+x*b[k])) % B)) i (k+1) ((carry+(out[i+k]+x*b[k])) / B):=by
 have h1:out[i+k]<B:=h.lt _ (List.getElem_mem hi);have h2:b[k]<B:=hb _ (List.getElem_mem hk);have hc:=h.cle;have h3:x*b[k]<=(B-1)*(B-1):=Nat.mul_le_mul ae ae;obtain⟨m,rfl⟩:∃ m,B=m+1:=⟨B-1,ae⟩
 have h4:carry+(out[i+k]+x*b[k])<(m+1)*(m+1):=by
  simp only[Nat.add_sub_cancel] at h3;simp only[Nat.add_mul,Nat.mul_add];omega
 refine⟨dK h.lt _ (Nat.mod_lt _ ae),Nat.div_lt_of_lt_mul h4,?_⟩;have hs:=pD (m+1) out (i+k) ((carry+(out[i+k]+x*b[k])) % (m+1)) hi;have hsum:=h.sum;rw[dP _ b k hk];have e:=Nat.div_add_mod (carry+(out[i+k]+x*b[k])) (m+1);generalize (carry+(out[i+k]+x*b[k])) % (m+1)=r at *;generalize (carry+(out[i+k]+x*b[k])) / (m+1)=q at *;have e2:(m+1) ^ (i+k)*((m+1)*q+r)=(m+1) ^ (i+k)*(carry+(out[i+k]+x*b[k])):=by rw[e]
 have e3:(m+1) ^ i*(x*((m+1) ^ k*b[k]))=(m+1) ^ (i+k)*(x*b[k]):=by
  rw[Nat.pow_add,Nat.mul_assoc,Nat.mul_left_comm x]
 rw[Nat.mul_add x,Nat.mul_add ((m+1) ^ i),e3,show i+(k+1)=(i+k)+1 from rfl,Nat.pow_succ];generalize mv (m+1) (out.set (i+k) r)=M at *;generalize (m+1) ^ (i+k)=p at *;generalize out[i+k]=y at *;generalize x*b[k]=z at *;simp only[Nat.mul_add,← Nat.mul_assoc] at e2 hs hsum ⊢;omega
theorem cw.tG {B V x o y:Nat} {b out:List Nat} {i k carry:Nat} (hB:1<B) (hx:x<B) (hb:aC B b) (h:cw B V x b out i k carry) (hk:k<b.length) (hi:i+k<out.length)
    (ho:o=out[i+k]?.getD 0) (hy:y=b[k]?.getD 0):cw B V x b (out.set (i+k) ((carry+(o+x*y)) % B)) i (k+1) ((carry+(o+x*y)) / B):=by
 have:=h.step hB hx hb hk hi;simp only[List.getElem?_eq_getElem hi,List.getElem?_eq_getElem hk,Option.getD_some] at ho hy;subst ho;subst hy;exact this
structure bW(B V:Nat)(out:List Nat)(k carry:Nat):Prop where
 lt:aC B out
 cle:carry<B
 sum:mv B out+B ^ k*carry=V
theorem bW.step {B V:Nat} {out:List Nat} {k carry:Nat} (hB:1<B) (h:bW B V out k carry) (hk:k<out.length) :
    bW B V (out.set k ((carry+out[k]) % B)) (k+1) ((carry+out[k]) / B):=by
 have h1:out[k]<B:=h.lt _ (List.getElem_mem hk);have hc:=h.cle;refine⟨dK h.lt _ (Nat.mod_lt _ ae),?_,?_⟩
 ·have:(carry+out[k]) / B<2:=Nat.div_lt_of_lt_mul ae;omega
 ·have hs:=pD B out k ((carry+out[k]) % B) hk;have hsum:=h.sum;have e:=Nat.div_add_mod (carry+out[k]) B;generalize (carry+out[k]) % B=r at *;generalize (carry+out[k]) / B=q at *;have e2:B ^ k*(B*q+r)=B ^ k*(carry+out[k]):=by rw[e]
  rw[Nat.pow_succ];generalize mv B (out.set k r)=M at *;generalize B ^ k=p at *;generalize out[k]=y at *;simp only[Nat.mul_add,← Nat.mul_assoc] at e2 hs hsum ⊢;omega
theorem bW.tG {B V o:Nat} {out:List Nat} {k carry:Nat} (hB:1<B) (h:bW B V out k carry) (hk:k<out.length) (ho:o=out[k]?.getD 0) :
    bW B V (out.set k ((carry+o) % B)) (k+1) ((carry+o) / B):=by
 have:=h.step hB hk;simp only[List.getElem?_eq_getElem hk,Option.getD_some] at ho;subst ho;exact this
theorem cw.done{B V x:Nat}{b out:List Nat}{i carry:Nat}(h:cw B V x b out i b.length carry):bW B (V+B ^ i*(x*mv B b)) out (i+b.length) carry :=
 ⟨h.lt,h.cle,by have:=h.sum;rwa[List.take_length] at this⟩
theorem bW.room{B V:Nat}{out:List Nat}{k carry n:Nat}(hB:1<B)(h:bW B V out k carry)(hc:0<carry)(hv:V<B ^ n)(hn:n<=out.length):k<out.length:=by
 have hs:=h.sum;by_cases hk:k<out.length
 ·exact hk
 ·exfalso;have h1:B ^ n<=B ^ k:=Nat.pow_le_pow_right ae ae;have h2:B ^ k*1<=B ^ k*carry:=Nat.mul_le_mul_left _ hc;omega
theorem lT(B:Nat)(l:List Nat)(i m:Nat):mv B (l.take (i+1))*m=mv B (l.take i)*m+B ^ i*(l[i]?.getD 0*m):=by
 have:=cE B l i;rw[show l.getD i 0=l[i]?.getD 0 by simp] at this;rw[this,Nat.add_mul,Nat.mul_assoc]
theorem Cs{B d k:Nat}(hB:0<B)(h:d<B)(hk:1<=k):d<B ^ k:=by
 have:=Nat.pow_le_pow_right hB hk;rw[Nat.pow_one] at this;omega
theorem mG{B a b m n:Nat}(ha:a<B ^ m)(hb:b<B ^ n):a*b<B ^ (m+n):=by
 rw[Nat.pow_add];by_cases h:b=0
 ·subst h;simp;exact Nat.mul_pos ae hb
 ·exact Nat.mul_lt_mul_of_lt_of_le ha (Nat.le_of_lt hb) ae
structure dH(B d:Nat)(l Q:List Nat)(j r:Nat):Prop where
 len:Q.length=l.length
 lt:aC B Q
 rem:r<d
 sum:mv B (Q.drop j)*d+r=mv B (l.drop j)
 zero:∀ i,i<j->Q[i]?.getD 0=0
theorem dH.start{B d:Nat}{l:List Nat}(hB:0<B)(hd:0<d):dH B d l (List.replicate l.length 0) l.length 0 :=
 ⟨by simp,fun x hx=>by rw[(List.mem_replicate.1 hx).2];exact hB,hd,by simp[mv],fun i hi=>by simp[hi]⟩
theorem tY{B:Nat}{l:List Nat}{i:Nat}(h:i<l.length):mv B (l.drop i)=l[i]?.getD 0+B*mv B (l.drop (i+1)):=by
 rw[List.drop_eq_getElem_cons h];simp[mv,h]
theorem dH.step {B d i r:Nat} {l Q:List Nat} (h:dH B d l Q (i+1) r) (hi:i<l.length) (hl:aC B l) (hd:0<d) :
    dH B d l (Q.set i ((r*B+l[i]?.getD 0) / d)) i ((r*B+l[i]?.getD 0) % d):=by
 have hx:l[i]?.getD 0<B:=by simpa using fp (by have:=hl l[i] (List.getElem_mem hi);omega) hl i
 have hr:=h.rem;have hlen:=h.len;have hq:(r*B+l[i]?.getD 0) / d<B:=by
  apply Nat.div_lt_of_lt_mul;have:(r+1)*B<=d*B:=Nat.mul_le_mul_right _ hr;rw[Nat.add_mul] at this;omega
 refine⟨by simp[hlen],dK h.lt _ hq,Nat.mod_lt _ hd,?_,fun k hk=>?_⟩
 ·rw[tY (l:=Q.set i _) (by simp;omega),tY hi];have e1:(Q.set i ((r*B+l[i]?.getD 0) / d)).drop (i+1)=Q.drop (i+1):=by
   rw[List.drop_set_of_lt ae]
  rw[e1];have hs:=h.sum;have e:=Nat.div_add_mod (r*B+l[i]?.getD 0) d;have e2:(Q.set i ((r*B+l[i]?.getD 0) / d))[i]?.getD 0=(r*B+l[i]?.getD 0) / d:=by
   simp[show i<Q.length by omega]
  rw[e2];generalize (r*B+l[i]?.getD 0) / d=q at *;generalize (r*B+l[i]?.getD 0) % d=s at *;generalize l[i]?.getD 0=x at *;generalize mv B (Q.drop (i+1))=m at *;rw[← hs];rw[Nat.add_mul,Nat.mul_add,Nat.mul_assoc,Nat.mul_comm q d,Nat.mul_comm B r];omega
 ·rw[List.getElem?_set_ne ae];exact h.zero k ae
theorem dH.done{B d r:Nat}{l Q:List Nat}(h:dH B d l Q 0 r):mv B Q=mv B l / d/\r=mv B l % d:=by
 have hs:=h.sum;simp only[List.drop_zero] at hs;have hd:=h.rem;rw[← hs];constructor
 ·rw[Nat.mul_comm,Nat.mul_add_div ae,Nat.div_eq_of_lt hd,Nat.add_zero]
 ·rw[Nat.mul_comm,Nat.mul_add_mod,Nat.mod_eq_of_lt hd]
def zl(n:Int):List UInt8:=Lib.itoa n
def zs(n:Int):ByteArray:=⟨(zl n).toArray⟩
theorem bH(n:Int):(zs n).data.toList=zl n:=by simp[zs]
theorem dB(n:Int):(zs n).size=(zl n).length:=by simp[zs,ByteArray.size]
theorem bZ{n:Int}(h:n<0):zl n=45 :: Lib.decDigits n.natAbs:=by unfold zl Lib.itoa;rw[if_pos h]
theorem bI{n:Int}(h:0<=n):zl n=Lib.decDigits n.natAbs:=by
 unfold zl Lib.itoa;rw[if_neg ae];congr 1;omega
theorem dr(n:Nat):zl (n:Int)=Lib.decDigits n:=by rw[bI ae];rfl
theorem wV:zl 0=[48]:=by rw[bI af];exact gE
theorem wU:zl 1=[49]:=by rw[bI af];exact lD
theorem og{b:UInt8}(h:cC b=true):b≠45:=by
 intro e;subst e;simp[cC] at h
theorem cT(u:Nat)(t:List UInt8):Lib.decDigits u≠45 :: t:=by
 intro e;exact og (a7 u 45 (by rw[e];simp)) rfl
theorem jf{a b:Int}(h:zl a=zl b):a=b:=by
 by_cases ha:a<0 <;> by_cases hb:b<0
 ·rw[bZ ha,bZ hb] at h;have:=pU (List.cons.inj h).2;omega
 ·rw[bZ ha,bI ae] at h;exact absurd h.symm (cT _ _)
 ·rw[bI ae,bZ hb] at h;exact absurd h (cT _ _)
 ·rw[bI ae,bI ae] at h;have:=pU h;omega
theorem bO{s t:ByteArray}(h:s.data.toList=t.data.toList):s=t:=by
 cases s;cases t;congr 1;exact Array.toList_inj.1 h
theorem qh(n:Int):zl n≠[]:=by
 by_cases h:n<0
 ·rw[bZ h];simp
 ·rw[bI ae];exact gr _
theorem ie{n:Int}:(zl n).head?=some 45 ↔ n<0:=by
 by_cases h:n<0
 ·rw[bZ h];simp[h]
 ·rw[bI ae];constructor
  ·intro e;cases hd:Lib.decDigits n.natAbs with
   | nil=>exact absurd hd (gr _)
   | cons b t =>
    rw[hd] at e;simp at e;subst e;exact absurd hd (cT _ _)
  ·intro h';omega
theorem fu{n:Int}{k:Nat}(hk:0<k)(h:n.natAbs<10 ^ k):(zl n).length<=k+1:=by
 have:=bB hk h;by_cases h:n<0
 ·rw[bZ h];simp;omega
 ·rw[bI ae];omega
theorem bK{n:Int}{k:Nat}(h:(zl n).length<=k):n.natAbs<10 ^ k:=by
 apply bN;by_cases h':n<0
 ·rw[bZ h'] at h;simp at h;omega
 ·rw[bI ae] at h;omega
theorem nj(u:Nat):Lib.decNat (Lib.decDigits u)=some u:=by
 unfold Lib.decNat;rw[if_neg (by simp[gr]),rG _ (a7 u)]
 congr 1
 exact cG u
end Go.Proofs.YtmahadmefplbnaaGreatDoor
