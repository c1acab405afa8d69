/- Part 3. -/
import Derived.Test.YtmahadmefplbnaaGreatDoorQTDA
import Derived.Test.YtmahadmefplbnaaGreatDoorQTD2
import Derived.Laws.BitsAllLaws
set_option maxRecDepth 100000
set_option maxHeartbeats 2000000
set_option linter.unusedVariables false
namespace Go.Proofs.YtmahadmefplbnaaGreatDoor
open Go
theorem mF{B:Nat}(hB:0<B):∀ {l:List Nat} (h:aC B l) (i:Nat),l[i]?.getD 0=mv B l / B ^ i % B
 | [],_,i=>by simp[mv]
 | x :: t,h,0=>by
  have hx:=h x (by simp);simp only[mv,Nat.pow_zero,Nat.div_one,List.getElem?_cons_zero,Option.getD_some];rw[Nat.add_mul_mod_self_left,Nat.mod_eq_of_lt hx]
 | x :: t,h,i+1=>by
  have hx:=h x (by simp);simp only[mv,List.getElem?_cons_succ];rw[mF hB (fun y hy=>h y (by simp[hy])) i,Nat.pow_succ,Nat.mul_comm (B ^ i) B,← Nat.div_div_eq_div_mul,Nat.add_mul_div_left _ _ hB,Nat.div_eq_of_lt hx,Nat.zero_add]
def sR(l:List Nat)(i:Nat):Nat:=l[i]?.getD 0 / 2+l[i+1]?.getD 0 % 2*2147483648
theorem CH{l:List Nat}(h:aC 4294967296 l)(i:Nat):sR l i<4294967296:=by
 have:=fp (B:=4294967296) af h i;simp only[List.getD_eq_getElem?_getD] at this;unfold sR;omega
theorem tX(l:List Nat):mv 4294967296 l % 2=l[0]?.getD 0 % 2:=by
 cases l with
 | nil=>rfl
 | cons x t=>simp only[mv,List.getElem?_cons_zero,Option.getD_some];omega
theorem ur:∀ {l xs:List Nat},xs.length=l.length->(∀ i,i<l.length->xs[i]?.getD 0=sR l i)->mv 4294967296 xs=mv 4294967296 l / 2
 | [],[],_,_=>rfl
 | x :: t,y :: s,hl,h=>by
  have h0:=h 0 (by simp);have ih:=ur (l:=t) (xs:=s) (by simpa using hl) (fun i hi=>by have:=h (i+1) (by simpa using hi);simpa[sR] using this);have hm:=tX t;simp only[sR,List.getElem?_cons_zero,Option.getD_some,List.getElem?_cons_succ,Nat.zero_add] at h0;simp only[mv,ih,h0];omega
theorem vX{a b:Nat}(ha:a % 2=0)(hb:b % 2=0):Nat.gcd a b=2*Nat.gcd (a / 2) (b / 2):=by
 rw[← Nat.gcd_mul_left,show 2*(a / 2)=a by omega,show 2*(b / 2)=b by omega]
theorem ou{a b:Nat}(ha:a % 2=0)(hb:b % 2=1):Nat.gcd (a / 2) b=Nat.gcd a b:=by
 have hc:Nat.Coprime 2 b:=by rw[Nat.Coprime,Nat.gcd_rec,hb];rfl
 rw[show Nat.gcd a b=Nat.gcd (2*(a / 2)) b by rw[show 2*(a / 2)=a by omega],hc.gcd_mul_left_cancel]
theorem vW{a b:Nat}(ha:a % 2=1)(hb:b % 2=0):Nat.gcd a (b / 2)=Nat.gcd a b:=by
 rw[Nat.gcd_comm,ou hb ha,Nat.gcd_comm]
theorem ri{a b:Nat}(h:b<=a):Nat.gcd (a-b) b=Nat.gcd a b:=Nat.gcd_sub_self_left h
structure ft(A B:Nat)(a b t:Nat):Prop where
 gcd:Nat.gcd A B=2 ^ t*Nat.gcd a b
 pos:0<b
 le:2 ^ t*b<=A+B
theorem ft.start{A B:Nat}(ha:0<A)(hb:0<B):ft A B A B 0:=⟨by simp,hb,by simp⟩
theorem ft.two{A B a b t:Nat}(h:ft A B a b t)(ha:a % 2=0)(hb:b % 2=0):ft A B (a / 2) (b / 2) (t+1):=by
 refine⟨?_,by have:=h.pos;omega,?_⟩
 ·rw[h.gcd,vX ha hb,Nat.pow_succ,Nat.mul_assoc]
 ·have:=h.le;rw[Nat.pow_succ,Nat.mul_assoc,show 2*(b / 2)=b by omega];exact this
theorem ft.left{A B a b t:Nat}(h:ft A B a b t)(ha:a % 2=0)(hb:b % 2=1):ft A B (a / 2) b t:=⟨by rw[h.gcd,ou ha hb],h.pos,h.le⟩
theorem ft.right{A B a b t:Nat}(h:ft A B a b t)(ha:a % 2=1)(hb:b % 2=0):ft A B a (b / 2) t :=
 ⟨by rw[h.gcd,vW ha hb],by have:=h.pos;omega,Nat.le_trans (Nat.mul_le_mul_left _ (Nat.div_le_self _ _)) h.le⟩
theorem ft.sub{A B a b t:Nat}(h:ft A B a b t)(hl:b<=a):ft A B (a-b) b t:=⟨by rw[h.gcd,ri hl],h.pos,h.le⟩
theorem ft.swap{A B a b t:Nat}(h:ft A B a b t)(hp:0<a)(hl:a<=b):ft A B (b-a) a t :=
 ⟨by rw[h.gcd,ri hl,Nat.gcd_comm],hp,Nat.le_trans (Nat.mul_le_mul_left _ hl) h.le⟩
theorem ft.done{A B b t:Nat}(h:ft A B 0 b t):Nat.gcd A B=2 ^ t*b:=by rw[h.gcd,Nat.gcd_zero_left]
structure wQ(A b:Nat)(n:Nat)(Q:List Nat)(i R:Nat):Prop where
 len:Q.length=n
 lt:aC 4294967296 Q
 q:mv 4294967296 Q=A / 2 ^ i / b*2 ^ i
 r:R=A / 2 ^ i % b
theorem wQ.start{A b n:Nat}(hA:A<2 ^ (32*n)):wQ A b n (List.replicate n 0) (32*n) 0 :=
 ⟨by simp,fun x hx=>by rw[(List.mem_replicate.1 hx).2];decide,by rw[jQ,Nat.div_eq_of_lt hA];simp,by rw[Nat.div_eq_of_lt hA];simp⟩
theorem wQ.done{A b n R:Nat}{Q:List Nat}(h:wQ A b n Q 0 R):mv 4294967296 Q=A / b:=by have:=h.q;simpa using this
theorem nu(X b bit:Nat)(hb:0<b)(h2:bit<2):(b<=2*(X % b)+bit->(2*X+bit) / b=2*(X / b)+1/\(2*X+bit) % b=2*(X % b)+bit-b)/\(2*(X % b)+bit<b->(2*X+bit) / b=2*(X / b)/\(2*X+bit) % b=2*(X % b)+bit):=by
 have hd:=Nat.div_add_mod X b;have hm:=Nat.mod_lt X hb;generalize X / b=q at *;generalize X % b=r at *;subst hd;constructor
 ·intro h;have e:2*(b*q+r)+bit=(2*r+bit-b)+b*(2*q+1):=by rw[Nat.mul_add b,Nat.mul_left_comm];omega
  rw[e,Nat.add_mul_div_left _ _ hb,Nat.add_mul_mod_self_left,Nat.div_eq_of_lt ae,Nat.mod_eq_of_lt ae];exact⟨ae,rfl⟩
 ·intro h;have e:2*(b*q+r)+bit=(2*r+bit)+b*(2*q):=by rw[Nat.mul_left_comm b];omega
  rw[e,Nat.add_mul_div_left _ _ hb,Nat.add_mul_mod_self_left,Nat.div_eq_of_lt h,Nat.mod_eq_of_lt h];exact⟨ae,rfl⟩
theorem ji(A j:Nat):A / 2 ^ j=2*(A / 2 ^ (j+1))+A / 2 ^ j % 2:=by
 rw[Nat.pow_succ,← Nat.div_div_eq_div_mul];omega
theorem x7(m k:Nat):2 ^ (32*m+k)=4294967296 ^ m*2 ^ k:=by rw[Nat.pow_add,Nat.pow_mul]
theorem C4{l:List Nat}(h:aC 4294967296 l)(m k:Nat)(hk:k<32):l[m]?.getD 0 / 2 ^ k % 2=mv 4294967296 l / 2 ^ (32*m+k) % 2:=by
 rw[mF af h,x7,← Nat.div_div_eq_div_mul];generalize mv 4294967296 l / 4294967296 ^ m=X;have h1:X % 4294967296 / 2 ^ k % 2=X / 2 ^ k % 2:=by
  have a:=Nat.testBit_mod_two_pow X 32 k;rw[decide_eq_true hk,Bool.true_and,Nat.testBit_eq_decide_div_mod_eq,Nat.testBit_eq_decide_div_mod_eq] at a;have b:=decide_eq_decide.1 a;rw[show(2:Nat) ^ 32=4294967296 from rfl] at b;omega
 exact h1
theorem yD{l:List Nat}(h:aC 4294967296 l){m k c:Nat}(hk:k<32)(e:mv 4294967296 l=c*2 ^ (32*m+k+1)):l[m]?.getD 0 % 2 ^ (k+1)=0:=by
 rw[mF af h,e,Nat.add_assoc,x7,Nat.mul_left_comm,Nat.mul_div_cancel_left _ (Nat.pow_pos af)];rw[show(4294967296:Nat)=2 ^ (k+1)*2 ^ (31-k) by rw[← Nat.pow_add,show k+1+(31-k)=32 by omega]];rw[Nat.mod_mul_right_mod,Nat.mul_mod_left]
theorem wQ.yes {A b n j R m k d:Nat} {Q:List Nat} (h:wQ A b n Q (j+1) R) (hb:0<b) (hj:j=32*m+k) (hk:k<32) (hm:m<n) (hd:d=Q[m]?.getD 0) (hge:b<=2*R+A / 2 ^ j % 2) :
    wQ A b n (Q.set m (d+2 ^ k)) j (2*R+A / 2 ^ j % 2-b)/\d % 2 ^ (k+1)=0/\d+2 ^ k<4294967296:=by
 have hq:=h.q;have hlen:=h.len;have hr:=h.r;have hz:d % 2 ^ (k+1)=0:=by rw[hd];exact yD h.lt hk (by rw[hq,hj])
 have hdl:d<4294967296:=by rw[hd];have:=fp (B:=4294967296) af h.lt m;simpa using this
 have hlt:d+2 ^ k<4294967296:=by
  have e1:(4294967296:Nat)=2 ^ (k+1)*2 ^ (31-k):=by rw[← Nat.pow_add,show k+1+(31-k)=32 by omega]
  have e2:d=2 ^ (k+1)*(d / 2 ^ (k+1)):=by have:=Nat.div_add_mod d (2 ^ (k+1));omega
  have e3:d / 2 ^ (k+1)<2 ^ (31-k):=by
   apply Nat.div_lt_of_lt_mul;rw[← e1];exact hdl
  have e4:2 ^ (k+1)*(d / 2 ^ (k+1)+1)<=4294967296:=by rw[e1];exact Nat.mul_le_mul_left _ e3
  rw[Nat.mul_add,← e2,Nat.mul_one,Nat.pow_succ] at e4;have:0<2 ^ k:=Nat.pow_pos af;omega
 refine⟨⟨by simp[hlen],dK h.lt _ hlt,?_,?_⟩,hz,hlt⟩
 ·have hs:=pD 4294967296 Q m (d+2 ^ k) ae;have e5:Q[m]'(by omega)=d:=by rw[hd];simp[show m<Q.length by omega]
  rw[e5,Nat.mul_add] at hs;have st:=(nu (A / 2 ^ (j+1)) b (A / 2 ^ j % 2) hb (Nat.mod_lt _ af)).1 (by rw[← hr];exact hge);rw[← ji] at st;rw[st.1,Nat.add_mul,Nat.one_mul,Nat.mul_assoc 2,Nat.mul_left_comm,← Nat.pow_succ',← hq,hj,x7];omega
 ·have st:=(nu (A / 2 ^ (j+1)) b (A / 2 ^ j % 2) hb (Nat.mod_lt _ af)).1 (by rw[← hr];exact hge);rw[← ji,← hr] at st;exact st.2.symm
theorem wQ.no{A b n j R:Nat}{Q:List Nat}(h:wQ A b n Q (j+1) R)(hb:0<b)(hlt:2*R+A / 2 ^ j % 2<b):wQ A b n Q j (2*R+A / 2 ^ j % 2):=by
 have st:=(nu (A / 2 ^ (j+1)) b (A / 2 ^ j % 2) hb (Nat.mod_lt _ af)).2 (by rw[← h.r];exact hlt);rw[← ji] at st;refine⟨h.len,h.lt,?_,?_⟩
 ·rw[h.q,st.1,Nat.mul_assoc 2,Nat.mul_left_comm,← Nat.pow_succ']
 ·rw[st.2,h.r]
theorem uP (x y b d:Nat) (hx:x<4294967296) (hy:y<4294967296) (hb:b<=1) (hd:d=(x+4294967296+4294967296-y-b) % 4294967296) :
    (((4294967295-x) &&& y) ||| ((4294967295-(x ^^^ y)) &&& d)) / 2147483648=if x<y+b then 1 else 0:=by
 have hxy:x ^^^ y<4294967296:=Nat.xor_lt_two_pow (n:=32) hx hy;have hdl:d<4294967296:=by rw[hd];exact Nat.mod_lt _ af
 have e1:∀ u v:Nat,(u ||| v) / 2147483648=(u / 2147483648) ||| (v / 2147483648):=fun u v=>by
  have:=Nat.shiftRight_or_distrib (a:=u) (b:=v) (i:=31);simpa[Nat.shiftRight_eq_div_pow] using this
 have e2:∀ u v:Nat,(u &&& v) / 2147483648=(u / 2147483648) &&& (v / 2147483648):=fun u v=>by
  have:=Nat.shiftRight_and_distrib (a:=u) (b:=v) (i:=31);simpa[Nat.shiftRight_eq_div_pow] using this
 have e3:∀ u v:Nat,(u ^^^ v) / 2147483648=(u / 2147483648) ^^^ (v / 2147483648):=fun u v=>by
  have:=Nat.shiftRight_xor_distrib (a:=u) (b:=v) (i:=31);simpa[Nat.shiftRight_eq_div_pow] using this
 have c:∀ z:Nat,z<4294967296->(4294967295-z) / 2147483648=1-z / 2147483648:=fun z hz=>ae
 rw[e1,e2,e2,c x hx,c _ hxy,e3];have hX:x / 2147483648=0∨x / 2147483648=1:=ae;have hY:y / 2147483648=0∨y / 2147483648=1:=ae;have hD:d / 2147483648=0∨d / 2147483648=1:=ae;rcases hX with hX|hX <;> rcases hY with hY|hY <;> rcases hD with hD|hD <;> rw[hX,hY,hD] <;> split <;> first|rfl|(exfalso;omega)
def iD(neg:Bool)(n d:Nat):Rat:=mkRat (if neg=true then -(n:Int) else(n:Int)) d
theorem sY(neg:Bool)(n d:Nat)(hd:d≠0)(h0:n=0->neg=false):(decide ((iD neg n d).num<0)=(neg && decide (n≠0)))/\(iD neg n d).num.natAbs=n / Nat.gcd n d/\(iD neg n d).den=d / Nat.gcd n d:=by
 have hg:Int.gcd (if neg=true then -(n:Int) else(n:Int)) (d:Int)=Nat.gcd n d:=by
  split
  ·rw[Int.neg_gcd,Int.gcd_natCast_natCast]
  ·rw[Int.gcd_natCast_natCast]
 have hp:=gg (if neg=true then -(n:Int) else(n:Int)) d (Nat.gcd n d) hd hg;have gp:0<Nat.gcd n d:=Nat.gcd_pos_of_pos_right _ ae;have hdv:Nat.gcd n d∣n:=Nat.gcd_dvd_left _ _;unfold iD;rw[hp.1,hp.2];refine⟨?_,?_,rfl⟩
 ·cases neg with
  | false =>
   simp only[Bool.false_eq_true,if_false,Bool.false_and];rw[← Int.ofNat_tdiv];exact decide_eq_false (Int.not_lt.2 (Int.natCast_nonneg _))
  | true =>
   have hn:n≠0:=fun e=>by have:=h0 e;cases this
   simp only[if_true,Bool.true_and];rw[Int.neg_tdiv,← Int.ofNat_tdiv,decide_eq_true hn];have:0<n / Nat.gcd n d:=Nat.div_pos (Nat.le_of_dvd ae hdv) gp;exact decide_eq_true ae
 ·split
  ·rw[Int.neg_tdiv,← Int.ofNat_tdiv,Int.natAbs_neg,Int.natAbs_natCast]
  ·rw[← Int.ofNat_tdiv,Int.natAbs_natCast]
end Go.Proofs.YtmahadmefplbnaaGreatDoor
