/- Part 8. -/
import Derived.Test.YtmahadmefplbnaaGreatDoorQTDB
import Derived.Test.YtmahadmefplbnaaGreatDoorQTD3
import Derived.Test.YtmahadmefplbnaaGreatDoorQTD6
import Derived.Test.YtmahadmefplbnaaGreatDoorQTD7
set_option maxRecDepth 100000
set_option maxHeartbeats 2000000
open Go.Proofs.Tryz
set_option linter.unusedSimpArgs false
set_option linter.unusedVariables false
namespace Go.Proofs.YtmahadmefplbnaaGreatDoor
open Go Go.RowKit
def Nh(w:World)(v:Value)(l:List Nat):Prop:=∃ (ad:Option Addr) (cap b:Nat) (cs:Array Value),v = .slice ad l.length cap/\l.length<=cap/\cap<=9223372036854775807/\(0<l.length->ad=some ⟨b,0,none⟩/\ax w b cs 234) /\
 ∀ i,i<l.length->cs[i]?=some (.int .u32 ((l[i]?.getD 0:Nat):Int))
def Nv(w:World)(v:Value)(n:Nat):Prop:=∃ l,Nh w v l/\Canon 4294967296 l/\mv 4294967296 l=n
section
variable {X w w':World} {v:Value} {l:List Nat} {n:Nat}
theorem Nh.ext(h:Nh w v l)(e:Ext w w'):Nh w' v l:=by
 obtain⟨ad,cap,b,cs,h1,h2,h3,h4,h5⟩:=h;exact⟨ad,cap,b,cs,h1,h2,h3,fun h0=>⟨(h4 h0).1,(h4 h0).2.ext e⟩,h5⟩
theorem Nv.ext(h:Nv w v n)(e:Ext w w'):Nv w' v n:=let ⟨l,a,b,c⟩:=h;⟨l,a.ext e,b,c⟩
theorem Nv.mv{S:Nat->Prop}(h:Nv w v n)(m:Mv X w S w')(hs:∀ k C,ax w k C 234->¬ S k):Nv w' v n:=by
 obtain⟨l,⟨ad,cap,b,cs,h1,h2,h3,h4,h5⟩,c,d⟩:=h;exact⟨l,⟨ad,cap,b,cs,h1,h2,h3,fun h0=>⟨(h4 h0).1,m.aF (h4 h0).2 (hs _ _ (h4 h0).2)⟩,h5⟩,c,d⟩
theorem Nv.cH(h:Nv w v n):∃ ad k cap,v = .slice ad k cap:=let ⟨_,⟨ad,cap,_,_,h1,_⟩,_⟩:=h;⟨ad,_,cap,h1⟩
theorem Nh.nil{ad:Option Addr}{cap:Nat}(h:cap<=9223372036854775807):Nh w (.slice ad 0 cap) []:=⟨ad,cap,0,#[],rfl,Nat.zero_le _,h,fun h=>absurd h (Nat.lt_irrefl 0),fun i hi=>absurd hi (Nat.not_lt_zero i)⟩
theorem Nv.nil{ad:Option Addr}{cap:Nat}(h:cap<=9223372036854775807):Nv w (.slice ad 0 cap) 0:=⟨[],Nh.nil h,Canon.nil _,rfl⟩
theorem Nv.qX{ad:Option Addr}{k cap:Nat}(h:Nv w (.slice ad k cap) n):k=0 ↔ n=0:=by
 obtain⟨l,⟨ad',cap',b,cs,h1,_⟩,c,d⟩:=h;cases h1;constructor
 ·intro e;rw[← d,List.length_eq_zero_iff.1 e];rfl
 ·intro e;rw[c.eN af (d.trans e)];rfl
end
theorem Bw{n:Nat}(h:Fit n):n<4294967296 ^ kR:=Nat.lt_of_lt_of_le h.out (Nat.pow_le_pow_left af _)
theorem Fit.mK{n:Nat}{l:List Nat}(h:Fit n)(c:Canon 4294967296 l)(e:mv 4294967296 l=n):l.length<=2000:=fL (k:=kR) af c (by rw[e];exact Bw h)
theorem Fit.le{m n:Nat}(h:Fit n)(hm:m<=n):Fit m:=⟨Nat.lt_of_le_of_lt hm h.out⟩
def zE(w:World)(l:List Nat)(v:Value)(e:Ending)(w':World):Prop:=∃ ad n k cap,v = .slice ad n cap/\e = .returned (.slice ad k cap)/\w=w'/\Nv w (.slice ad k cap) (mv 4294967296 l)
theorem kG {w:World} {l:List Nat} {b cap n k:Nat} {cs:Array Value} (hn:n=l.length) (hk:k<=n) (hcap:n<=cap) (hmax:cap<=9223372036854775807) (hb:ax w b cs 234)
    (hc:∀ i,i<n->cs[i]?=some (.int .u32 ((l[i]?.getD 0:Nat):Int))) (hl:aC 4294967296 l) (hz:∀ i (h:i<l.length),k<=i->l[i]=0)
    (hlast:k=0∨l[k-1]?.getD 0≠0):Nv w (.slice (some ⟨b,0,none⟩) k cap) (mv 4294967296 l):=by
 have hlen:(l.take k).length=k:=by rw[List.length_take];omega
 have ht:=oY (B:=4294967296) (l:=l) (k:=k) ae hl hz (by
  rcases hlast with h|h
  ·exact Or.inl h
  ·by_cases h0:k=0
   ·exact Or.inl h0
   ·exact Or.inr ⟨ae,by simpa[show k-1<l.length by omega] using h⟩)
 refine⟨l.take k,⟨some ⟨b,0,none⟩,cap,b,cs,by rw[hlen],ae,hmax,fun _=>⟨rfl,hb⟩,fun i hi=>?_⟩,ht.1,ht.2⟩;rw[hlen] at hi;rw[hc i ae];simp[hi]
set_option maxHeartbeats 400000 in
theorem tT(l:List Nat)(v:Value)(w:World)(h:Nh w v l)(hl:aC 4294967296 l):Calls prog 209 #[v] w (zE w l v):=by
 obtain⟨ad,cap,b,cs,rfl,hcap,hmax,hb,hc⟩:=h;by_cases hz:0<l.length
 ·obtain⟨rfl,hB⟩:=hb hz;obtain⟨n,hn⟩:∃ n,n=l.length:=⟨_,rfl⟩
  have hcap':n<=cap:=ae;have hn':n<=l.length:=ae;rw[← hn] at hc ⊢;have HN:=aj hn;have HB:=aj hB;have HC:=aj hc;clear hn hz hb hcap hB hc;go_enter func209,ntmps209;go_wp2;go_loop [0] (fun v=>∃ k:Nat,k<=n/\v = .slice (some ⟨b,0,none⟩) k cap/\∀ i (h:i<l.length),k<=i->l[i]=0)
   (fun v=>match v with | .slice _ k _=>k|_=>0)
  case atStart=>exact⟨n,Nat.le_refl _,rfl,fun i h1 h2=>by have:=HN.o;omega⟩
  case round =>
   obtain⟨k,hk,rfl,hz⟩:=hrel;by_cases h0:0<k
   ·have hcell:w.cell? ⟨b,k-1,none⟩=some (.int .u32 ((l[k-1]?.getD 0:Nat):Int)):=HB.o.cell _ (HC.o _ ae);go_wp2
    ·have h1:(((l[k-1]?.getD 0:Nat):Int) == 0)=true:=by assumption
     go_round
     case rel=>exact⟨k-1,ae,rfl,fK h0 hz (by simpa using h1)⟩
     case measure=>show k-1<k;omega
    ·have h1:(((l[k-1]?.getD 0:Nat):Int) == 0)=false:=by assumption
     go_ret;exact⟨_,_,_,_,rfl,rfl,rfl,kG HN.o hk hcap' hmax HB.o HC.o hl hz (Or.inr (by simpa using h1))⟩
   ·go_wp2;go_ret;exact⟨_,_,_,_,rfl,rfl,rfl,kG HN.o hk hcap' hmax HB.o HC.o hl hz (Or.inl ae)⟩
 ·obtain rfl:l=[]:=List.length_eq_zero_iff.1 ae;simp only[List.length_nil];clear hb hc hz;go_enter func209,ntmps209;go_wp2;go_loop [0] (fun v=>v = .slice ad 0 cap) (fun _=>0)
  case atStart=>rfl
  case round =>
   subst hrel;go_wp2;go_ret;exact⟨_,_,_,_,rfl,rfl,rfl,Nv.nil hmax⟩
def Ed(w:World)(a b:Nat)(e:Ending)(w':World):Prop:=∃ c:Int,e = .returned (.int .i64 c)/\Ext w w'/\(c<0 ↔ a<b)/\(0<c ↔ b<a)
theorem mB {l m:List Nat} {k n:Nat} (hl:l.length=n) (hm:m.length=n) (hk:k<n) (hd:l.drop (k+1)=m.drop (k+1)) (bl:aC 4294967296 l)
    (h:l[k]?.getD 0<m[k]?.getD 0):mv 4294967296 l<mv 4294967296 m:=by
 have h1:k<l.length:=ae;have h2:k<m.length:=ae;exact gR bl ae h1 hd (by simpa[h1,h2] using h)
set_option maxHeartbeats 1000000 in
theorem fQ(a b:Nat)(va vb:Value)(w:World)(ha:Nv w va a)(hb:Nv w vb b):Calls prog 137 #[va,vb] w (Ed w a b):=by
 obtain⟨l,⟨ad,ca,b1,c1,rfl,p1,p2,p3,p4⟩,cl,rfl⟩:=ha;obtain⟨m,⟨bd,cb,b2,c2,rfl,q1,q2,q3,q4⟩,cm,rfl⟩:=hb;obtain⟨n,hn⟩:∃ n,n=l.length:=⟨_,rfl⟩
 obtain⟨n',hn'⟩:∃ n',n'=m.length:=⟨_,rfl⟩
 by_cases heq:n=n'
 ·subst heq;by_cases h0:0<n
  ·obtain⟨rfl,hB1⟩:=p3 ae;obtain⟨rfl,hB2⟩:=q3 ae;rw[← hn] at p1 p4 ⊢;rw[← hn'] at q1 q4 ⊢;have HN:=aj hn;have HN':=aj hn';have H1:=aj hB1;have H2:=aj hB2;have P4:=aj p4;have Q4:=aj q4;clear hn hn' p3 q3 p4 q4 hB1 hB2;go_enter func137,ntmps137;go_wp2;go_loopw [5] (fun i wr=>∃ k:Nat,k<=n/\i = .int .i64 ((k:Int)-1)/\l.drop k=m.drop k/\Ext w wr) (fun i _=>(intOf i+1).toNat)
   case atStart=>exact⟨n,Nat.le_refl _,rfl,by rw[List.drop_of_length_le (by have:=HN.o;omega),List.drop_of_length_le (by have:=HN'.o;omega)],Ext.refl _⟩
   case round =>
    obtain⟨k,hk,rfl,hd,hx⟩:=hrel;by_cases hk0:0<k
    ·obtain⟨j,rfl⟩:∃ j,k=j+1:=⟨k-1,ae⟩
     have ej:(((j+1:Nat):Int)-1)=(j:Int):=ae;rw[ej];clear ej;have g1:wr.cell? ⟨b1,j,none⟩=some (.int .u32 ((l[j]?.getD 0:Nat):Int)):=(H1.o.ext hx).cell _ (P4.out j ae);have g2:wr.cell? ⟨b2,j,none⟩=some (.int .u32 ((m[j]?.getD 0:Nat):Int)):=(H2.o.ext hx).cell _ (Q4.out j ae);have HD:=aj hd;clear hd;go_wp2;go_quiet (fail);go_wp2
     ·have h1:l[j]?.getD 0<m[j]?.getD 0:=by assumption
      go_ret;have h2:=mB HN.o.symm HN'.o.symm ae HD.o cl.lt h1;exact⟨-1,rfl,(hx.drewN _),ae,ae⟩
     ·have h1:¬ l[j]?.getD 0<m[j]?.getD 0:=by assumption
      go_quiet (fail);go_wp2
      ·have h2:m[j]?.getD 0<l[j]?.getD 0:=by assumption
       go_ret;have h3:=mB HN'.o.symm HN.o.symm ae HD.o.symm cm.lt h2;exact⟨1,rfl,(hx.drewN _).drewN _,ae,ae⟩
      ·have h2:¬ m[j]?.getD 0<l[j]?.getD 0:=by assumption
       go_roundw
       case rel=>exact⟨j,ae,rfl,kx HN.o.symm HN'.o.symm ae HD.o ae,hx.drewN _⟩
       case measure=>simp[intOf]
    ·obtain rfl:k=0:=ae;go_wp2;go_ret;have e:l=m:=by simpa using hd
     exact⟨0,rfl,hx,by rw[e];omega,by rw[e];omega⟩
  ·obtain rfl:l=[]:=List.length_eq_zero_iff.1 ae;obtain rfl:m=[]:=List.length_eq_zero_iff.1 ae;simp only[List.length_nil];clear hn hn' p3 q3 p4 q4;go_enter func137,ntmps137;go_wp2;refine wp_loop_rounds 1 ?_;rw[rounds_succ];go_wp2;go_ret;exact⟨0,rfl,Ext.refl _,ae,ae⟩
 ·have h1:n<n'->mv 4294967296 l<mv 4294967296 m:=fun h=>cl.eB af cm ae
  have h2:n'<n->mv 4294967296 m<mv 4294967296 l:=fun h=>cm.eB af cl ae
  have HC:Hid ((((n:Int)-(n':Int))<0 ↔ mv 4294967296 l<mv 4294967296 m)/\(0<((n:Int)-(n':Int)) ↔ mv 4294967296 m<mv 4294967296 l)):=aj (by
   rcases Nat.lt_or_ge n n' with h|h
   ·have:=h1 h;omega
   ·have:=h2 ae;omega)
  rw[← hn] at p1 ⊢;rw[← hn'] at q1 ⊢;have hne:¬ (n:Int)=(n':Int):=ae;clear hn hn' p3 q3 p4 q4 h1 h2;go_enter func137,ntmps137;go_wp2;go_ret;exact⟨_,rfl,Ext.refl _,HC.o.1,HC.o.2⟩
theorem rL(x:Nat)(h:x<4294967296):bits .and .u32 (x:Int) 1=((x % 2:Nat):Int):=by
 have:=u32_and_nat x 1 h af;rw[nat_mask1] at this;exact this
theorem gQ(a:Nat)(va:Value)(w:World)(ha:Nv w va a):Calls prog 254 #[va] w (aR w (.bool (decide (a % 2=1)))):=by
 obtain⟨l,⟨ad,ca,b1,c1,rfl,p1,p2,p3,p4⟩,cl,rfl⟩:=ha;by_cases h0:0<l.length
 ·obtain⟨rfl,hB⟩:=p3 h0;have hc:w.cell? ⟨b1,0,none⟩=some (.int .u32 ((l[0]?.getD 0:Nat):Int)):=hB.cell _ (p4 0 h0);have hm:=tX l;have hlt:l[0]?.getD 0<4294967296:=aK af cl.lt 0;rw[hm];have hb:=rL _ hlt;generalize l[0]?.getD 0=x at hc hb ⊢;generalize l.length=n at h0 p1 ⊢;clear hm hlt p3 p4 hB cl;go_enter func254,ntmps254;go_wp2;go_ret;exact⟨by rw[show decide (x % 2=1)=((x:Int) % 2 == 1) from by rw[Bool.eq_iff_iff];simp;omega];rfl,Ext.refl _⟩
 ·obtain rfl:l=[]:=List.length_eq_zero_iff.1 ae;simp only[List.length_nil];clear p3 p4;go_enter func254,ntmps254;go_wp2;go_ret;exact⟨rfl,Ext.refl _⟩
theorem Bj{k:IntKind}{a b c d:Int}(h1:a=b)(h2:c=d):Ending.returned (.tuple #[.int k a,.int k c]) = .returned (.tuple #[.int k b,.int k d]):=by rw[h1,h2]
theorem uI (x y c:Nat) (w:World) (hx:x<4294967296) (hy:y<4294967296) (hc:c<=1):Calls prog 211 #[.int .u32 (x:Int),.int .u32 (y:Int),.int .u32 (c:Int)] w
    (fun e w'=>e = .returned (.tuple #[.int .u32 (((c+x+y) % 4294967296:Nat):Int),.int .u32 (((c+x+y) / 4294967296:Nat):Int)])/\w=w'):=by
 go_enter func211,ntmps211;go_wp2;go_ret2;exact⟨Bj ae ae,rfl⟩
theorem qi(x:Nat)(h:x<4294967296):4294967295 ^^^ x=4294967295-x:=by
 have e1:(BitVec.ofNat 32 x ^^^ BitVec.allOnes 32).toNat=x ^^^ 4294967295:=by
  rw[BitVec.toNat_xor,BitVec.toNat_ofNat,Nat.mod_eq_of_lt h];rfl
 rw[BitVec.xor_allOnes,BitVec.toNat_not,BitVec.toNat_ofNat,Nat.mod_eq_of_lt h] at e1;rw[Nat.xor_comm,← e1]
theorem xr (x y c:Nat) (hx:x<4294967296) (hy:y<4294967296) (hc:c<=1) :
    bits .or .u32 (bits .and .u32 (bits .xor .u32 IntKind.u32.max (x:Int)) (y:Int)) (bits .and .u32 (bits .xor .u32 IntKind.u32.max (bits .xor .u32 (x:Int) (y:Int))) (((x:Int)-(y:Int)-(c:Int)) % 4294967296)) / 2147483648=if x<y+c then 1 else 0:=by
 have em:IntKind.u32.max=((4294967295:Nat):Int):=af;have ed:((x:Int)-(y:Int)-(c:Int)) % 4294967296=(((x+4294967296+4294967296-y-c) % 4294967296:Nat):Int):=ae;have hxy:x ^^^ y<4294967296:=Nat.xor_lt_two_pow (n:=32) hx hy;have h1:=uP x y c _ hx hy hc rfl;have hd:(x+4294967296+4294967296-y-c) % 4294967296<4294967296:=Nat.mod_lt _ af;rw[ed];generalize (x+4294967296+4294967296-y-c) % 4294967296=d at *;have a1:(4294967295-x) &&& y<4294967296:=Nat.lt_of_le_of_lt Nat.and_le_right hy;have a2:(4294967295-(x ^^^ y)) &&& d<4294967296:=Nat.lt_of_le_of_lt Nat.and_le_right hd;rw[em,u32_xor_nat _ _ af hx,u32_xor_nat _ _ hx hy,u32_xor_nat _ _ af hxy,qi x hx,qi _ hxy,u32_and_nat _ _ ae hy,u32_and_nat _ _ ae hd,u32_or_nat _ _ a1 a2];generalize ((4294967295-x) &&& y) ||| ((4294967295-(x ^^^ y)) &&& d)=z at h1 ⊢;split at h1 <;> omega
theorem tF (x y c d b:Nat) (w:World) (hx:x<4294967296) (hy:y<4294967296) (hc:c<=1) (hd:d=(x+8589934592-y-c) % 4294967296) (hb:(b:Int)=if x<y+c then 1 else 0) :
    Calls prog 212 #[.int .u32 (x:Int),.int .u32 (y:Int),.int .u32 (c:Int)] w (fun e w'=>e = .returned (.tuple #[.int .u32 (d:Int),.int .u32 (b:Int)])/\w=w'):=by
 have HB:=aj (hb.trans (xr x y c hx hy hc).symm);have HD:Hid ((d:Int)=((x:Int)-(y:Int)-(c:Int)) % 4294967296):=aj ae;clear hb hd;go_enter func212,ntmps212;go_wp2;go_ret2;exact⟨Bj HD.o.symm HB.o.symm,rfl⟩
theorem xq (x y c:Nat) (w:World) (hx:x<4294967296) (hc:c<=1) (h:c+y<=x):Calls prog 212 #[.int .u32 (x:Int),.int .u32 (y:Int),.int .u32 (c:Int)] w
    (fun e w'=>e = .returned (.tuple #[.int .u32 ((x-(c+y):Nat):Int),.int .u32 ((0:Nat):Int)])/\w=w') :=
 tF x y c _ _ w hx ae hc ae (by rw[if_neg ae];rfl)
theorem uO (x y c:Nat) (w:World) (hx:x<4294967296) (hy:y<4294967296) (hc:c<=1) (h:x<c+y):Calls prog 212 #[.int .u32 (x:Int),.int .u32 (y:Int),.int .u32 (c:Int)] w
    (fun e w'=>e = .returned (.tuple #[.int .u32 ((x+4294967296-(c+y):Nat):Int),.int .u32 ((1:Nat):Int)])/\w=w') :=
 tF x y c _ _ w hx hy hc ae (by rw[if_pos ae];rfl)
theorem Nh.bX{w:World}{base n:Nat}{v:Value}{l:List Nat}(h:w.ownsRow base 234 1 v n (l.map fun(x:Nat)=>Value.int .u32 x)):Nh w v l/\∀ k,v.ownBlock=some k->base<=k:=by
 have hlen:l.length=n:=by have:=h.1;simpa using this
 rcases h.2 with⟨rfl,h0⟩|⟨g,cap,cur,rfl,hg,hh,h1,h2,h3,h4⟩
 ·obtain rfl:l=[]:=List.length_eq_zero_iff.1 ae;exact⟨Nh.nil af,fun k h=>by cases h⟩
 ·refine⟨⟨_,cap,g,cur,by rw[hlen],ae,h2,fun _=>⟨rfl,⟨hh⟩⟩,fun i hi=>?_⟩,fun k e=>by simp[Value.ownBlock] at e;omega⟩;have:=h.cellAt i ae;simp only[World.cell?,hh] at this;simpa[hi] using this
def Dj(w:World)(n:Nat)(e:Ending)(w':World):Prop:=∃ v,e = .returned v/\Ext w w'/\Nv w' v n/\∀ k,v.ownBlock=some k->w.heap.size<=k
theorem gB{w w0:World}{l:List Nat}{v:Value}{n:Nat}(h:w.ownsRow w0.heap.size 234 1 v n (l.map fun(x:Nat)=>Value.int .u32 x))(hx:Ext w0 w)(hl:aC 4294967296 l){m:Nat}(hm:mv 4294967296 l=m):Calls prog 209 #[v] w (Dj w0 m):=by
 obtain⟨h1,h2⟩:=Nh.bX h;refine(tT l v w h1 hl).mono ?_;rintro e w' ⟨ad,n,k,cap,rfl,rfl,rfl,hv⟩;exact⟨_,rfl,hx,hm▸hv,fun k e=>h2 k (by cases ad with
  | none=>cases e
  | some a=>exact e)⟩
theorem iz:(prog.info? 234).map (fun i=>(i.zero,i.size,i.bytes))=some (some (.int .u32 0),1,4):=ag
theorem bJ:prog.underlying 110=some (.slice 234):=ag
theorem dM(w:World):(sizeOf 234).run prog w = .ok 1 w:=ag
theorem mC (a b:Nat) (va vb:Value) (w:World) (ha:Nv w va a) (hb:Nv w vb b) (fa:Fit a) (fb:Fit b) :
    Calls prog 136 #[va,vb] w (Dj w (a+b)):=by
 obtain⟨l0,hl0,cl0,rfl⟩:=ha;obtain⟨m0,hm0,cm0,rfl⟩:=hb;have nl0:=fa.mK cl0 rfl;have nm0:=fb.mK cm0 rfl;clear fa fb;obtain⟨i0,hi,hz0,hz1,hz2⟩:=info_parts iz
 have key:∃ L M vL vM,M.length<=L.length/\L.length<=2000/\aC 4294967296 L/\aC 4294967296 M/\mv 4294967296 l0+mv 4294967296 m0=mv 4294967296 L+mv 4294967296 M/\Nh w vL L/\Nh w vM M /\
     ((va=vL/\vb=vM)∨(va=vM/\vb=vL/\M.length<L.length)):=by
  by_cases h:l0.length<m0.length
  ·exact⟨m0,l0,vb,va,ae,nm0,cm0.lt,cl0.lt,ae,hm0,hl0,Or.inr ⟨rfl,rfl,h⟩⟩
  ·exact⟨l0,m0,va,vb,ae,nl0,cl0.lt,cm0.lt,rfl,hl0,hm0,Or.inl ⟨rfl,rfl⟩⟩
 clear hl0 hm0 nl0 nm0 cl0 cm0;obtain⟨L,M,vL,vM,hML,hL2,bL,bM,hsum,hL,hM,hv⟩:=key;rw[hsum];clear hsum l0 m0;obtain⟨n,hn⟩:∃ n,n=L.length:=⟨_,rfl⟩
 obtain⟨n',hn'⟩:∃ n',n'=M.length:=⟨_,rfl⟩
 obtain⟨adL,capL,kL,csL,rfl,h1L,hcL,hbL,hCL⟩:=hL;obtain⟨adM,capM,kM,csM,rfl,h1M,hcM,hbM,hCM⟩:=hM;rw[← hn] at hL2 hML h1L hbL hCL hv;rw[← hn'] at hML h1M hbM hCM hv;have HN:=aj hn;have HN':=aj hn';clear hn hn';rcases hv with⟨rfl,rfl⟩|⟨rfl,rfl,hlt⟩
 all_goals
  have H1:=aj hbL;have H2:=aj hCL;have H3:=aj hbM;have H4:=aj hCM;clear hbL hCL hbM hCM;go_enter func136,ntmps136;go_wp2_with (at_make;refine wpList_make_own _ rfl _ _ 110 rfl w.heap.size 234 i0 (.int .u32 0) 1 bJ hi hz0 hz1 _ _ _ (n+1) rfl rfl ae (by rw[hz2];omega) (by unfold maxLen;omega) (Nat.le_refl _) ?_;intro w0 hown0 hgrow0)
  go_loopw [5, 6, 24] (fun out c i wr => ∃ (k carry : Nat) (xs : List Nat), k <= n /\ i = .int .i64 k /\ c = .int .u32 carry /\ dp 4294967296 L M xs k carry /\ out = .slice (some ⟨w.heap.size, 0, none⟩) k (n + 1) /\
      wr.ownsRow w.heap.size 234 1 (.slice (some ⟨w.heap.size,0,none⟩) k (n+1)) k (xs.map fun(x:Nat)=>Value.int .u32 x)/\Ext w wr)
   (fun _ _ i _=>n-(intOf i).toNat)
  case atStart=>exact⟨0,0,[],Nat.zero_le _,rfl,rfl,dp.start _ _ _,rfl,hown0,(Below.refl _ _).grown hgrow0 (Nat.le_refl _) (fun k h=>by cases h)⟩
  case round =>
   obtain⟨k,carry,xs,hk,rfl,rfl,hinv,rfl,hown,hx⟩:=hrel;by_cases hkn:k<n
   ·have hix1:=aQ 110 234 bJ dM (cap:=capL) (off:=0) (fun h=>(H1.o h).1) k hkn;have hcell1:wr.cell? ⟨kL,k,none⟩=some (.int .u32 ((L[k]?.getD 0:Nat):Int)):=((H1.o ae).2.ext hx).cell _ (H2.o k (by have:=HN.o;omega));rw[Nat.zero_add] at hix1;have hc1:=hinv.cle;have hx1:=aK (B:=4294967296) af bL k;have hy1:=aK (B:=4294967296) af bM k;by_cases hkm:k<n'
    ·have hix2:=aQ 110 234 bJ dM (cap:=capM) (off:=0) (fun h=>(H3.o h).1) k hkm;have hcell2:wr.cell? ⟨kM,k,none⟩=some (.int .u32 ((M[k]?.getD 0:Nat):Int)):=((H3.o ae).2.ext hx).cell _ (H4.o k (by have:=HN'.o;omega));rw[Nat.zero_add] at hix2;have HST:=aj (hinv.step af bL bM);clear hinv;go_wp2_with (first|(go_at_call 211;refine(uI (L[k]?.getD 0) (M[k]?.getD 0) carry _ hx1 hy1 hc1).mono ?_;rintro e w1 ⟨rfl,rfl⟩)|(at_builtin;refine wpList_append_fits _ rfl (.tmp 44) (.tmp 46) 110 rfl w.heap.size 234 i0 1 bJ hi hz1 w.heap.size k (n+1) _ rfl (hown.alloc _) ⟨wr.heap.size,0,none⟩ 1 1 [.int .u32 (((carry+L[k]?.getD 0+M[k]?.getD 0) % 4294967296:Nat):Int)] rfl rfl (by intro t u ht;match t,ht with|0,ht=>simp at ht;subst ht;simp[Addr.add]) (by intro u hu;simp at hu;subst hu;rfl) ae ?_;intro w1 hown1 hgrow1));go_roundw
     case rel=>exact⟨k+1,(carry+L[k]?.getD 0+M[k]?.getD 0) / 4294967296,xs ++ [(carry+L[k]?.getD 0+M[k]?.getD 0) % 4294967296],ae,by go_num,by go_num,by simpa using HST.o,rfl,by rw[← eO];exact hown1,(hx.alloc _).grown hgrow1 (fun k e=>by cases e;exact Nat.le_refl _)⟩
     case measure=>simp[intOf];omega
    ·have hm0:M[k]?.getD 0=0:=by rw[List.getElem?_eq_none (by have:=HN'.o;omega)];rfl
     have HST:=aj (hinv.step af bL bM);have HM0:=aj hm0;clear hinv hm0;go_wp2_with (first|(go_at_call 211;refine(uI (L[k]?.getD 0) 0 carry _ hx1 af hc1).mono ?_;rintro e w1 ⟨rfl,rfl⟩)|(at_builtin;refine wpList_append_fits _ rfl (.tmp 44) (.tmp 46) 110 rfl w.heap.size 234 i0 1 bJ hi hz1 w.heap.size k (n+1) _ rfl (hown.alloc _) ⟨wr.heap.size,0,none⟩ 1 1 [.int .u32 (((carry+L[k]?.getD 0+0) % 4294967296:Nat):Int)] rfl rfl (by intro t u ht;match t,ht with|0,ht=>simp at ht;subst ht;simp[Addr.add]) (by intro u hu;simp at hu;subst hu;rfl) ae ?_;intro w1 hown1 hgrow1));go_roundw
     case rel=>exact⟨k+1,(carry+L[k]?.getD 0+0) / 4294967296,xs ++ [(carry+L[k]?.getD 0+0) % 4294967296],ae,by go_num,by go_num,by have h:=HST.o;rw[show M.getD k 0=0 by rw[List.getD_eq_getElem?_getD];exact HM0.o] at h;simpa using h,rfl,by rw[← eO];exact hown1,(hx.alloc _).grown hgrow1 (fun k e=>by cases e;exact Nat.le_refl _)⟩
     case measure=>simp[intOf];omega
   ·obtain rfl:n=k:=ae;have hdone:=(HN.o▸hinv:dp 4294967296 L M xs L.length carry).done af (by rw[← HN.o,← HN'.o];exact hML);go_wp2_with (first|(at_builtin;refine wpList_append_fits _ rfl (.tmp 49) (.tmp 51) 110 rfl w.heap.size 234 i0 1 bJ hi hz1 w.heap.size n (n+1) _ rfl (hown.alloc _) ⟨wr.heap.size,0,none⟩ 1 1 [.int .u32 (carry:Int)] rfl rfl (by intro t u ht;match t,ht with|0,ht=>simp at ht;subst ht;simp[Addr.add]) (by intro u hu;simp at hu;subst hu;rfl) ae ?_;intro w1 hown1 hgrow1;have hown2:=hown1;rw[eO] at hown2)|(go_at_call 209;refine(gB hown2 ((hx.alloc _).grown hgrow1 (fun k e=>by cases e;exact Nat.le_refl _)) hdone.1 hdone.2).mono ?_;rintro e w' ⟨v',rfl,hx',hm,hk⟩));go_ret;exact⟨v',rfl,hx',hm,hk⟩
theorem mA (a b:Nat) (va vb:Value) (w:World) (ha:Nv w va a) (hb:Nv w vb b) (fa:Fit a) (hle:b<=a) :
    Calls prog 138 #[va,vb] w (Dj w (a-b)):=by
 obtain⟨L,hL,cL,rfl⟩:=ha;obtain⟨M,hM,cM,rfl⟩:=hb;have hL2:=fa.mK cL rfl;have hML:=cL.jt af cM hle;have HLE:=aj hle;clear fa hle;obtain⟨i0,hi,hz0,hz1,hz2⟩:=info_parts iz;obtain⟨n,hn⟩:∃ n,n=L.length:=⟨_,rfl⟩
 obtain⟨n',hn'⟩:∃ n',n'=M.length:=⟨_,rfl⟩
 obtain⟨adL,capL,kL,csL,rfl,h1L,hcL,hbL,hCL⟩:=hL;obtain⟨adM,capM,kM,csM,rfl,h1M,hcM,hbM,hCM⟩:=hM;rw[← hn] at hL2 hML h1L hbL hCL ⊢;rw[← hn'] at hML h1M hbM hCM ⊢;have HN:=aj hn;have HN':=aj hn';have H1:=aj hbL;have H2:=aj hCL;have H3:=aj hbM;have H4:=aj hCM;have bL:=cL.lt;have bM:=cM.lt;clear hbL hCL hbM hCM hn hn' cL cM;go_enter func138,ntmps138;go_wp2_with (at_make;refine wpList_make_own _ rfl _ _ 110 rfl w.heap.size 234 i0 (.int .u32 0) 1 bJ hi hz0 hz1 _ _ _ n rfl rfl ae (by rw[hz2];omega) (by unfold maxLen;omega) (Nat.le_refl _) ?_;intro w0 hown0 hgrow0)
 go_loopw [5, 6, 16] (fun out c i wr => ∃ (k borrow : Nat) (xs : List Nat), k <= n /\ i = .int .i64 k /\ c = .int .u32 borrow /\ aW 4294967296 L M xs k borrow /\ out = .slice (some ⟨w.heap.size, 0, none⟩) k n /\
     wr.ownsRow w.heap.size 234 1 (.slice (some ⟨w.heap.size,0,none⟩) k n) k (xs.map fun(x:Nat)=>Value.int .u32 x)/\Ext w wr)
  (fun _ _ i _=>n-(intOf i).toNat)
 case atStart=>exact⟨0,0,[],Nat.zero_le _,rfl,rfl,aW.start _ _ _,rfl,hown0,(Below.refl _ _).grown hgrow0 (Nat.le_refl _) (fun k h=>by cases h)⟩
 case round =>
  obtain⟨k,borrow,xs,hk,rfl,rfl,hinv,rfl,hown,hx⟩:=hrel;by_cases hkn:k<n
  ·have hix1:=aQ 110 234 bJ dM (cap:=capL) (off:=0) (fun h=>(H1.o h).1) k hkn;have hcell1:wr.cell? ⟨kL,k,none⟩=some (.int .u32 ((L[k]?.getD 0:Nat):Int)):=((H1.o ae).2.ext hx).cell _ (H2.o k (by have:=HN.o;omega));rw[Nat.zero_add] at hix1;have hc1:=hinv.ble;have hx1:=aK (B:=4294967296) af bL k;have hy1:=aK (B:=4294967296) af bM k
   -- the piece that is taken away,and how it comes up
   obtain⟨y,hy,HY⟩:∃ y,y<4294967296/\Hid (M.getD k 0=y):=⟨_,hy1,aj (by rw[List.getD_eq_getElem?_getD])⟩
   have fin : ∀ (w1 : World) (d q : Nat), aW 4294967296 L M (xs ++ [d]) (k + 1) q -> w1.ownsRow w.heap.size 234 1 (.slice (some ⟨w.heap.size, 0, none⟩) (k + 1) n) (k + 1) ((xs.map fun (x : Nat) => Value.int .u32 x) ++ [.int .u32 (d : Int)]) -> Ext w w1 ->
       ∃ (k' borrow:Nat) (xs:List Nat),k'<=n/\Value.int .i64 ((k:Int)+1) = .int .i64 k'/\Value.int .u32 (q:Int) = .int .u32 borrow/\aW 4294967296 L M xs k' borrow/\Value.slice (some ⟨w.heap.size,0,none⟩) (k+1) n = .slice (some ⟨w.heap.size,0,none⟩) k' n /\
        w1.ownsRow w.heap.size 234 1 (.slice (some ⟨w.heap.size,0,none⟩) k' n) k' (xs.map fun(x:Nat)=>Value.int .u32 x)/\Ext w w1 :=
    fun w1 d q h1 h2 h3=>⟨k+1,q,xs ++ [d],ae,by go_num,rfl,h1,rfl,by rw[← eO];exact h2,h3⟩
   have FIN:=aj fin;clear fin hy1
   -- what Sub32 leaves
   obtain⟨d,q,HS,HQ⟩:∃ d q:Nat,Hid (∀ w,Calls prog 212 #[.int .u32 ((L[k]?.getD 0:Nat):Int),.int .u32 (y:Int),.int .u32 (borrow:Int)] w (fun e w'=>e = .returned (.tuple #[.int .u32 (d:Int),.int .u32 (q:Int)])/\w=w'))/\Hid (aW 4294967296 L M (xs ++ [d]) (k+1) q):=by
    have eL:L.getD k 0=L[k]?.getD 0:=List.getD_eq_getElem?_getD;by_cases hlt:L[k]?.getD 0<borrow+y
    ·exact⟨_,_,aj (fun w=>uO _ _ _ w hx1 hy hc1 hlt),aj (by have:=hinv.il af bL bM (by rw[HY.o,eL];exact hlt);rwa[HY.o,eL] at this)⟩
    ·exact⟨_,_,aj (fun w=>xq _ _ _ w hx1 hc1 ae),aj (by have:=hinv.jg af bL (by rw[HY.o,eL];omega);rwa[HY.o,eL] at this)⟩
   clear hinv;by_cases hkm:k<n'
   ·have hix2:=aQ 110 234 bJ dM (cap:=capM) (off:=0) (fun h=>(H3.o h).1) k hkm;have hcell2:wr.cell? ⟨kM,k,none⟩=some (.int .u32 (y:Int)):=by rw[← HY.o,List.getD_eq_getElem?_getD];exact((H3.o ae).2.ext hx).cell _ (H4.o k (by have:=HN'.o;omega))
    rw[Nat.zero_add] at hix2;go_wp2_with (first|(go_at_call 212;refine(HS.o _).mono ?_;rintro e w1 ⟨rfl,rfl⟩)|(at_builtin;refine wpList_append_fits _ rfl (.tmp 36) (.tmp 38) 110 rfl w.heap.size 234 i0 1 bJ hi hz1 w.heap.size k n _ rfl (hown.alloc _) ⟨wr.heap.size,0,none⟩ 1 1 [.int .u32 (d:Int)] rfl rfl (by intro t u ht;match t,ht with|0,ht=>simp at ht;subst ht;simp[Addr.add]) (by intro u hu;simp at hu;subst hu;rfl) ae ?_;intro w1 hown1 hgrow1));go_roundw
    case rel=>exact FIN.out w1 _ _ HQ.o hown1 ((hx.alloc _).grown hgrow1 (fun k e=>by cases e;exact Nat.le_refl _))
    case measure=>simp[intOf];omega
   ·obtain rfl:y=0:=by rw[← HY.o,List.getD_eq_getElem?_getD,List.getElem?_eq_none (by have:=HN'.o;omega)];rfl
    go_wp2_with (first|(go_at_call 212;refine(HS.o _).mono ?_;rintro e w1 ⟨rfl,rfl⟩)|(at_builtin;refine wpList_append_fits _ rfl (.tmp 36) (.tmp 38) 110 rfl w.heap.size 234 i0 1 bJ hi hz1 w.heap.size k n _ rfl (hown.alloc _) ⟨wr.heap.size,0,none⟩ 1 1 [.int .u32 (d:Int)] rfl rfl (by intro t u ht;match t,ht with|0,ht=>simp at ht;subst ht;simp[Addr.add]) (by intro u hu;simp at hu;subst hu;rfl) ae ?_;intro w1 hown1 hgrow1));go_roundw
    case rel=>exact FIN.out w1 _ _ HQ.o hown1 ((hx.alloc _).grown hgrow1 (fun k e=>by cases e;exact Nat.le_refl _))
    case measure=>simp[intOf];omega
  ·obtain rfl:n=k:=ae;have hdone:=(HN.o▸hinv:aW 4294967296 L M xs L.length borrow).done (by rw[← HN.o,← HN'.o];exact hML) HLE.o;have hlt:=hinv.lt;go_wp2_with (go_at_call 209;refine(gB hown hx hlt hdone).mono ?_;rintro e w' ⟨v',rfl,hx',hm,hk⟩);go_ret;exact⟨v',rfl,hx',hm,hk⟩
end Go.Proofs.YtmahadmefplbnaaGreatDoor
