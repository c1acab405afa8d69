/- Part 21. -/
import Derived.Test.YtmahadmefplbnaaGreatDoorQVLB
import Derived.Test.YtmahadmefplbnaaGreatDoorQVL20
import Derived.Deep.RegionLaw
set_option maxRecDepth 100000
set_option maxHeartbeats 2000000
open Go.Proofs.Tryz
namespace Go.Proofs.YtmahadmefplbnaaGreatDoor
open Go Go.RowKit
theorem wh{B:Nat}:∀ {xs:List Nat} {j d:Nat},j<xs.length->mv B (xs.set j (xs[j]?.getD 0+d))=mv B xs+B ^ j*d
 | x :: t,0,d,_=>by simp[mv];omega
 | x :: t,j+1,d,h=>by
  have ih:=wh (B:=B) (xs:=t) (j:=j) (d:=d) (by simpa using h);simp only[av,mv,List.getElem?_cons_succ,ih];rw[Nat.mul_add,Nat.pow_succ,Nat.add_assoc,Nat.mul_comm (B ^ j) B,Nat.mul_assoc]
def nQ(w wr:World)(n:Nat)(xs:List Nat):Prop :=
 xs.length=n/\wr.ownsRow w.heap.size 3 1 (.slice (some ⟨w.heap.size,0,none⟩) n n) n (xs.map fun(x:Nat)=>Value.int .i64 x)/\Ext w wr
theorem nQ.cell{w wr:World}{n:Nat}{xs:List Nat}(h:nQ w wr n xs)(i:Nat)(hi:i<n):wr.cell? ⟨w.heap.size,i,none⟩=some (.int .i64 ((xs[i]?.getD 0:Nat):Int)):=by
 have:=h.2.1.cellAt i ae;rw[this];simp[show i<xs.length by rw[h.1];exact hi]
theorem nQ.free{w wr:World}{n:Nat}{xs:List Nat}(h:nQ w wr n xs)(i:Nat):wr.frozen? ⟨w.heap.size,i,none⟩=false:=h.2.1.frozenAt i
theorem nQ.set{w wr:World}{n:Nat}{xs:List Nat}(h:nQ w wr n xs)(i x:Nat):nQ w (wr.setCell ⟨w.heap.size,i,none⟩ (.int .i64 (x:Int))) n (xs.set i x):=by
 have:=h.2.1.stored i (.int .i64 (x:Int));refine⟨by rw[List.length_set];exact h.1,?_,h.2.2.setCell (Nat.le_refl _) _⟩;rw[List.map_set];exact this.1
theorem nQ.drew{w wr:World}{n:Nat}{xs:List Nat}(h:nQ w wr n xs):nQ w wr.drew n xs:=⟨h.1,h.2.1.drew,h.2.2.drew⟩
theorem nQ.holds{w wr:World}{n:Nat}{xs:List Nat}(h:nQ w wr n xs):lW wr (.slice (some ⟨w.heap.size,0,none⟩) n n) (xs.map Int.ofNat):=by
 have:=h.2.1;refine lW.fm (base:=w.heap.size) (e:=3) (n:=n) ?_;rw[List.map_map];exact this
structure lV(P Q:List Nat)(i k:Nat)(xs:List Nat):Prop where
 val:mv 10000 xs=mv 10000 (P.take i)*mv 10000 Q+10000 ^ i*(P[i]?.getD 0*mv 10000 (Q.take k))
 all:∀ y ∈ xs,y<=(i+1)*100000000
 rest:∀ j,i+k<=j->xs[j]?.getD 0<=i*100000000
theorem lV.step {P Q:List Nat} {i k x y:Nat} {xs:List Nat} (h:lV P Q i k xs) (hk:k<Q.length) (hl:i+k<xs.length) (hx:x=P[i]?.getD 0) (hy:y=Q[k]?.getD 0) (hx1:x<10000) (hy1:y<10000) :
    lV P Q i (k+1) (xs.set (i+k) (xs[i+k]?.getD 0+x*y)):=by
 have hxy:x*y<=100000000:=by
  have:=Nat.mul_le_mul (show x<=10000 by omega) (show y<=10000 by omega);omega
 have hr:=h.rest (i+k) (Nat.le_refl _);refine⟨?_,?_,?_⟩
 ·rw[wh hl,h.val,iQ 10000 Q k hk,Nat.mul_add (P[i]?.getD 0),Nat.mul_add (10000 ^ i),← Nat.add_assoc,Nat.pow_add]
  congr 1
  rw[← hx,show Q[k]=y by rw[hy];simp[hk]];rw[Nat.mul_assoc,Nat.mul_left_comm x]
 ·intro z hz;rcases List.mem_or_eq_of_mem_set hz with hz|hz
  ·exact h.all z hz
  ·rw[hz];omega
 ·intro j hj;rw[List.getElem?_set_ne ae];exact h.rest j ae
theorem lV.next{P Q:List Nat}{i:Nat}{xs:List Nat}(h:lV P Q i Q.length xs)(hi:i<P.length):lV P Q (i+1) 0 xs:=by
 have pS:∀ y ∈ xs,y<=(i+1)*100000000:=h.all;refine⟨?_,fun y hy=>Nat.le_trans (pS y hy) (Nat.mul_le_mul_right _ (Nat.le_succ _)),fun j _=>?_⟩
 ·have e1:P[i]?.getD 0=P[i]:=by simp[hi]
  have hv:=h.val;rw[List.take_length,e1] at hv;rw[hv,iQ 10000 P i hi,Nat.add_mul,List.take_zero,Nat.mul_assoc];show _=_+10000 ^ (i+1)*(_*0);rw[Nat.mul_zero,Nat.mul_zero,Nat.add_zero]
 ·by_cases hj:j<xs.length
  ·have:=pS xs[j] (List.getElem_mem _);rw[List.getElem?_eq_getElem hj];exact this
  ·rw[List.getElem?_eq_none (Nat.le_of_not_lt hj)];exact Nat.zero_le _
theorem wj(n:Nat):(madeCells (Value.int .i64 0).cells (n*1)).toList=(List.replicate n 0).map fun(x:Nat)=>Value.int .i64 x:=pq .i64 n
set_option maxHeartbeats 4000000 in
theorem MM (a b:Nat) (va vb:Value) (w:World) (ha:fK w va a) (hb:fK w vb b) (fa:jX a) (fb:jX b) (fc:jX (a*b)) :
    Calls prog 152 #[va,vb] w (JA w (a*b)):=by
 obtain⟨L,hL,cL,rfl⟩:=ha;obtain⟨M,hM,cM,rfl⟩:=hb;have OE:=fa.len cL rfl;have hM2:=fb.len cM rfl;have HF:=ai fc;clear fa fb fc;obtain⟨i0,hi,nI,mE,jh⟩:=info_parts rO;obtain⟨n,hn⟩:∃ n,n=L.length:=⟨_,rfl⟩
 obtain⟨n',mf⟩:∃ n',n'=M.length:=⟨_,rfl⟩
 obtain⟨adL,Bu,kL,oL,rfl,OG,hcL,wU,wV⟩:=hL;obtain⟨adM,Hh,kM,oM,rfl,XX,hcM,GJ,GL⟩:=hM;rw[← hn] at OE OG wU wV ⊢;rw[← mf] at hM2 XX GJ GL ⊢;have HN:=ai hn;have uh:=ai mf;have H1:=ai wU;have H2:=ai wV;have H3:=ai GJ;have H4:=ai GL;have BL:=ai cL.lt;have BM:=ai cM.lt;clear wU wV GJ GL hn mf cL cM;go_enter func152,ntmps152;go_wp2_with (at_make;refine wpList_make_full _ rfl _ _ 85 rfl w.heap.size 3 i0 (.int .i64 0) 1 underlying85 hi nI mE _ _ _ _ (n+n') rfl rfl ae ae (by rw[jh];omega) (by unfold maxLen;omega) (Nat.le_refl _) ?_;intro w0 jq ni);rw[wj] at jq;go_loopw [6] (fun i wr=>∃ (k:Nat) (xs:List Nat),k<=n/\i = .int .i64 k/\nQ w wr (n+n') xs/\Hid (lV L M k 0 xs))
  (fun i _=>n-(intOf i).toNat)
 case atStart =>
  exact⟨0,List.replicate (n+n') 0,Nat.zero_le _,rfl,⟨by simp,jq,(Below.refl _ _).grown ni (Nat.le_refl _) (fun k h=>by cases h)⟩,ai ⟨by rw[wg];simp[mv],fun y hy=>by rw[(List.mem_replicate.1 hy).2];omega,fun j _=>by simp[List.getElem?_replicate];split <;> simp⟩⟩
 case round =>
  obtain⟨k,xs,hk,rfl,cq,hinv⟩:=hrel;have tk:=ai cq;clear cq;by_cases y3:k<n
  ·obtain⟨x,hx⟩:∃ x,x=L[k]?.getD 0:=⟨_,rfl⟩
   have pQ:x<10000:=by rw[hx];exact cv af BL.out k
   have HX:=ai hx;clear hx;have Om:=dG 85 3 underlying85 ph (cap:=Bu) (fun h=>(H1.o h).1) k y3;go_wp2;go_loopw [7] (fun i wr=>∃ (j:Nat) (ys:List Nat),j<=n'/\i = .int .i64 j/\nQ w wr (n+n') ys/\Hid (lV L M k j ys))
    (fun i _=>n'-(intOf i).toNat)
   case atStart=>exact⟨0,xs,Nat.zero_le _,rfl,tk.o,hinv⟩
   case round =>
    obtain⟨j,ys,hj,rfl,cq,jL⟩:=hrel;by_cases rT:j<n'
    ·have Ol:=dG 85 3 underlying85 ph (cap:=Hh) (fun h=>(H3.o h).1) j rT;obtain⟨y,hy⟩:∃ y,y=M[j]?.getD 0:=⟨_,rfl⟩
     obtain⟨o,ho⟩:∃ o,o=ys[k+j]?.getD 0:=⟨_,rfl⟩
     have AQ:y<10000:=by rw[hy];exact cv af BM.out j
     have qby:o<=500000000000:=by
      have:=jL.out.rest (k+j) (Nat.le_refl _);rw[ho];omega
     have qE:wr.cell? ⟨kL,oL+k,none⟩=some (.int .i64 (x:Int)):=by
      rw[HX.o];exact(cq.2.2.cell (p:=⟨kL,oL+k,none⟩) (H1.o ae).2).trans (H2.o k y3)
     have wR:wr.cell? ⟨kM,oM+j,none⟩=some (.int .i64 (y:Int)):=by
      rw[hy];exact(cq.2.2.cell (p:=⟨kM,oM+j,none⟩) (H3.o ae).2).trans (H4.o j rT)
     have Ox:wr.cell? ⟨w.heap.size,k+j,none⟩=some (.int .i64 (o:Int)):=by
      rw[ho];exact cq.cell (k+j) ae
     have wN:=cq.free (k+j);have Uk:x*y<=100000000:=by
      have:=Nat.mul_le_mul (show x<=10000 by omega) (show y<=10000 by omega);omega
     have hlen:ys.length=n+n':=cq.1;have kp:=ai (jL.out.step (by rw[← uh.o];exact rT) ae HX.o hy pQ AQ);rw[← ho] at kp;have nR:=ai (cq.set (k+j) (o+x*y));have sw1:IntKind.i64.wrap ((k:Int)+(j:Int))=(k:Int)+(j:Int):=IntWalk.i64_in _ ae;have sx:(x:Int)*(y:Int)=((x*y:Nat):Int):=(Int.natCast_mul x y).symm;have sw2:IntKind.i64.wrap ((x:Int)*(y:Int))=(x:Int)*(y:Int):=by rw[sx];exact IntWalk.i64_in _ ae
     have sw3:IntKind.i64.wrap ((o:Int)+(x:Int)*(y:Int))=(o:Int)+(x:Int)*(y:Int):=by rw[sx];exact IntWalk.i64_in _ ae
     have SX:Hid ((o:Int)+(x:Int)*(y:Int)=((o+x*y:Nat):Int)):=ai (by rw[sx];simp);have i1:(0:Int)<=(k:Int)+(j:Int):=ae;have i2:(k:Int)+(j:Int)<(n:Int)+(n':Int):=ae;have i3:k+j<n+n':=ae;have i4:((k:Int)+(j:Int)).toNat=k+j:=ae;clear sx;have HY:=ai hy;have HO:=ai ho;have PL:=ai cq;clear hy ho cq hlen Uk;go_wp2;go_region_law (fail)
     all_goals
      go_wp2;go_roundw
      case rel=>first|exact⟨j+1,_,ae,by go_num,by have:=nR.o;rw[← SX.out] at this;exact this.drew,kp⟩|((repeat apply Exists.intro);exact⟨⟨j+1,_,ae,by go_num,by have:=nR.o;rw[← SX.out] at this;exact this.drew,kp⟩,rfl⟩)
      case measure=>simp[intOf];omega
    ·obtain rfl:n'=j:=ae;have HNX:Hid (lV L M (k+1) 0 ys):=ai ((show lV L M k M.length ys by rw[← uh.o];exact jL.out).next (by rw[← HN.o];exact y3));go_wp2;go_roundw
     case rel=>exact⟨k+1,ys,ae,by go_num,cq,HNX⟩
     case measure=>simp[intOf];omega
  ·obtain rfl:n=k:=ae;have iR:=hinv.out.val;rw[HN.o,List.take_length,List.take_zero] at iR;have pw:mv 10000 xs=mv 10000 L*mv 10000 M:=by
    rw[iR];show _+_*(_*0)=_;rw[Nat.mul_zero,Nat.mul_zero,Nat.add_zero]
   have wS:=Br (xs.map Int.ofNat) (.slice (some ⟨w.heap.size,0,none⟩) (n+n') (n+n')) wr tk.o.holds (fun x hx=>by
    obtain⟨y,hy,rfl⟩:=List.mem_map.1 hx;have h1:=hinv.out.all y hy;have h2:(n+1)*100000000<=5001*100000000:=Nat.mul_le_mul_right _ ae;constructor
    ·exact Int.le_trans af (Int.natCast_nonneg y)
    ·show(y:Int)<=_;omega) (by rw[List.length_map,tk.o.1];omega) (by rw[uF];omega) (by rw[uF,pw];exact HF.o)
   rw[uF,pw,Int.toNat_natCast] at wS;have HC:=ai wS;clear wS iR pw;go_wp2_with (go_at_call 224;refine HC.o.mono ?_;rintro e w' ⟨v',rfl,e1,hm⟩);go_ret;exact⟨v',rfl,tk.o.2.2.trans e1,hm⟩
