/- Part 21. -/
import Derived.Test.YtmahadmefplbnaaGreatDoorQRV20
import Derived.Deep.RegionLaw
set_option maxRecDepth 100000
set_option maxHeartbeats 2000000
theorem Go.Proofs.YtmahadmefplbnaaGreatDoor.Hi21 {p:Prop} (h:p):Go.RowKit.Hid p:=h
namespace Go.Proofs.YtmahadmefplbnaaGreatDoor
open Go Go.RowKit
theorem mv_set_add {B:Nat}:∀ {xs:List Nat} {j d:Nat},j<xs.length->mv B (xs.set j (xs[j]?.getD 0+d))=mv B xs+B ^ j*d
 | x :: t,0,d,_=>by simp [mv];omega
 | x :: t,j+1,d,h=>by
  have ih:=mv_set_add (B:=B) (xs:=t) (j:=j) (d:=d) (by simpa using h);simp only [List.set_cons_succ,mv,List.getElem?_cons_succ,ih];rw [Nat.mul_add,Nat.pow_succ,Nat.add_assoc,Nat.mul_comm (B ^ j) B,Nat.mul_assoc]
def OwnI (w wr:World) (n:Nat) (xs:List Nat):Prop :=
 xs.length=n/\wr.ownsRow w.heap.size 3 1 (.slice (some ⟨w.heap.size,0,none⟩) n n) n (xs.map fun (x:Nat)=>Value.int .i64 x)/\Ext w wr
theorem OwnI.cell {w wr:World} {n:Nat} {xs:List Nat} (h:OwnI w wr n xs) (i:Nat) (hi:i<n):wr.cell? ⟨w.heap.size,i,none⟩=some (.int .i64 ((xs[i]?.getD 0:Nat):Int)):=by
 have:=h.2.1.cellAt i (by omega);rw [this];simp [show i<xs.length by rw [h.1];exact hi]
theorem OwnI.free {w wr:World} {n:Nat} {xs:List Nat} (h:OwnI w wr n xs) (i:Nat):wr.frozen? ⟨w.heap.size,i,none⟩=false:=h.2.1.frozenAt i
theorem OwnI.set {w wr:World} {n:Nat} {xs:List Nat} (h:OwnI w wr n xs) (i x:Nat):OwnI w (wr.setCell ⟨w.heap.size,i,none⟩ (.int .i64 (x:Int))) n (xs.set i x):=by
 have:=h.2.1.stored i (.int .i64 (x:Int));refine ⟨by rw [List.length_set];exact h.1,?_,h.2.2.setCell (Nat.le_refl _) _⟩;rw [List.map_set];exact this.1
theorem OwnI.drew {w wr:World} {n:Nat} {xs:List Nat} (h:OwnI w wr n xs):OwnI w wr.drew n xs:=⟨h.1,h.2.1.drew,h.2.2.drew⟩
theorem OwnI.holds {w wr:World} {n:Nat} {xs:List Nat} (h:OwnI w wr n xs):HoldsI wr (.slice (some ⟨w.heap.size,0,none⟩) n n) (xs.map Int.ofNat):=by
 have:=h.2.1;refine HoldsI.of_owns (base:=w.heap.size) (e:=3) (n:=n) ?_;rw [List.map_map];exact this
structure RTimes (P Q:List Nat) (i k:Nat) (xs:List Nat):Prop where
 val:mv 10000 xs=mv 10000 (P.take i)*mv 10000 Q+10000 ^ i*(P[i]?.getD 0*mv 10000 (Q.take k))
 all:∀ y ∈ xs,y<=(i+1)*100000000
 rest:∀ j,i+k<=j->xs[j]?.getD 0<=i*100000000
theorem RTimes.step {P Q:List Nat} {i k x y:Nat} {xs:List Nat} (h:RTimes P Q i k xs) (hk:k<Q.length) (hl:i+k<xs.length) (hx:x=P[i]?.getD 0) (hy:y=Q[k]?.getD 0) (hx1:x<10000) (hy1:y<10000) :
    RTimes P Q i (k+1) (xs.set (i+k) (xs[i+k]?.getD 0+x*y)):=by
 have hxy:x*y<=100000000:=by
  have:=Nat.mul_le_mul (show x<=10000 by omega) (show y<=10000 by omega);omega
 have hr:=h.rest (i+k) (Nat.le_refl _);refine ⟨?_,?_,?_⟩
 ·rw [mv_set_add hl,h.val,mv_take_succ 10000 Q k hk,Nat.mul_add (P[i]?.getD 0),Nat.mul_add (10000 ^ i),← Nat.add_assoc,Nat.pow_add]
  congr 1
  rw [← hx,show Q[k]=y by rw [hy];simp [hk]];rw [Nat.mul_assoc,Nat.mul_left_comm x]
 ·intro z hz;rcases List.mem_or_eq_of_mem_set hz with hz|hz
  ·exact h.all z hz
  ·rw [hz];omega
 ·intro j hj;rw [List.getElem?_set_ne (by omega)];exact h.rest j (by omega)
theorem RTimes.next {P Q:List Nat} {i:Nat} {xs:List Nat} (h:RTimes P Q i Q.length xs) (hi:i<P.length):RTimes P Q (i+1) 0 xs:=by
 have hall:∀ y ∈ xs,y<=(i+1)*100000000:=h.all;refine ⟨?_,fun y hy=>Nat.le_trans (hall y hy) (Nat.mul_le_mul_right _ (Nat.le_succ _)),fun j _=>?_⟩
 ·have e1:P[i]?.getD 0=P[i]:=by simp [hi]
  have hv:=h.val;rw [List.take_length,e1] at hv;rw [hv,mv_take_succ 10000 P i hi,Nat.add_mul,List.take_zero,Nat.mul_assoc];show _=_+10000 ^ (i+1)*(_*0);rw [Nat.mul_zero,Nat.mul_zero,Nat.add_zero]
 ·by_cases hj:j<xs.length
  ·have:=hall xs[j] (List.getElem_mem _);rw [List.getElem?_eq_getElem hj];exact this
  ·rw [List.getElem?_eq_none (Nat.le_of_not_lt hj)];exact Nat.zero_le _
theorem made_zeroI (n:Nat):(madeCells (Value.int .i64 0).cells (n*1)).toList=(List.replicate n 0).map fun (x:Nat)=>Value.int .i64 x:=made_zero .i64 n
set_option maxHeartbeats 4000000 in
theorem rtimes_c (a b:Nat) (va vb:Value) (w:World) (ha:RMag w va a) (hb:RMag w vb b) (fa:RFit a) (fb:RFit b) (fc:RFit (a*b)) :
    Calls Tryz.prog 152 #[va,vb] w (RPost w (a*b)):=by
 obtain ⟨L,hL,cL,rfl⟩:=ha;obtain ⟨M,hM,cM,rfl⟩:=hb;have hL2:=fa.len cL rfl;have hM2:=fb.len cM rfl;have HF:=Hi21 fc;clear fa fb fc;obtain ⟨i0,hi,hz0,hz1,hz2⟩:=info_parts Tryz.infoInt;obtain ⟨n,hn⟩:∃ n,n=L.length:=⟨_,rfl⟩
 obtain ⟨n',hn'⟩:∃ n',n'=M.length:=⟨_,rfl⟩
 obtain ⟨adL,capL,kL,oL,rfl,h1L,hcL,hbL,hCL⟩:=hL;obtain ⟨adM,capM,kM,oM,rfl,h1M,hcM,hbM,hCM⟩:=hM;rw [← hn] at hL2 h1L hbL hCL ⊢;rw [← hn'] at hM2 h1M hbM hCM ⊢;have HN:=Hi21 hn;have HN':=Hi21 hn';have H1:=Hi21 hbL;have H2:=Hi21 hCL;have H3:=Hi21 hbM;have H4:=Hi21 hCM;have BL:=Hi21 cL.lt;have BM:=Hi21 cM.lt;clear hbL hCL hbM hCM hn hn' cL cM;go_enter Tryz.func152,Tryz.ntmps152;go_wp2_with (at_make;refine wpList_make_full _ rfl _ _ 85 rfl w.heap.size 3 i0 (.int .i64 0) 1 Tryz.underlying85 hi hz0 hz1 _ _ _ _ (n+n') rfl rfl (by omega) (by omega) (by rw [hz2];omega) (by unfold maxLen;omega) (Nat.le_refl _) ?_;intro w0 hown0 hgrow0);rw [made_zeroI] at hown0;go_loopw [6] (fun i wr=>∃ (k:Nat) (xs:List Nat),k<=n/\i = .int .i64 k/\OwnI w wr (n+n') xs/\Hid (RTimes L M k 0 xs))
  (fun i _=>n-(intOf i).toNat)
 case atStart =>
  exact ⟨0,List.replicate (n+n') 0,Nat.zero_le _,rfl,⟨by simp,hown0,(Below.refl _ _).grown hgrow0 (Nat.le_refl _) (fun k h=>by cases h)⟩,Hi21 ⟨by rw [mv_zeros];simp [mv],fun y hy=>by rw [(List.mem_replicate.1 hy).2];omega,fun j _=>by simp [List.getElem?_replicate];split <;> simp⟩⟩
 case round =>
  obtain ⟨k,xs,hk,rfl,hown,hinv⟩:=hrel;have HOWN:=Hi21 hown;clear hown;by_cases hkn:k<n
  ·obtain ⟨x,hx⟩:∃ x,x=L[k]?.getD 0:=⟨_,rfl⟩
   have hxlt:x<10000:=by rw [hx];exact getD_lt' (by decide) BL.out k
   have HX:=Hi21 hx;clear hx;have hix1:=run_index 85 3 Tryz.underlying85 Tryz.sizeInt (cap:=capL) (fun h=>(H1.out h).1) k hkn;go_wp2;go_loopw [7] (fun i wr=>∃ (j:Nat) (ys:List Nat),j<=n'/\i = .int .i64 j/\OwnI w wr (n+n') ys/\Hid (RTimes L M k j ys))
    (fun i _=>n'-(intOf i).toNat)
   case atStart=>exact ⟨0,xs,Nat.zero_le _,rfl,HOWN.out,hinv⟩
   case round =>
    obtain ⟨j,ys,hj,rfl,hown,hin⟩:=hrel;by_cases hjn:j<n'
    ·have hix2:=run_index 85 3 Tryz.underlying85 Tryz.sizeInt (cap:=capM) (fun h=>(H3.out h).1) j hjn;obtain ⟨y,hy⟩:∃ y,y=M[j]?.getD 0:=⟨_,rfl⟩
     obtain ⟨o,ho⟩:∃ o,o=ys[k+j]?.getD 0:=⟨_,rfl⟩
     have hylt:y<10000:=by rw [hy];exact getD_lt' (by decide) BM.out j
     have holt:o<=500000000000:=by
      have:=hin.out.rest (k+j) (Nat.le_refl _);rw [ho];omega
     have hcell1:wr.cell? ⟨kL,oL+k,none⟩=some (.int .i64 (x:Int)):=by
      rw [HX.out];exact (hown.2.2.cell (p:=⟨kL,oL+k,none⟩) (H1.out (by omega)).2).trans (H2.out k hkn)
     have hcell2:wr.cell? ⟨kM,oM+j,none⟩=some (.int .i64 (y:Int)):=by
      rw [hy];exact (hown.2.2.cell (p:=⟨kM,oM+j,none⟩) (H3.out (by omega)).2).trans (H4.out j hjn)
     have hcell3:wr.cell? ⟨w.heap.size,k+j,none⟩=some (.int .i64 (o:Int)):=by
      rw [ho];exact hown.cell (k+j) (by omega)
     have hfree:=hown.free (k+j);have hprod:x*y<=100000000:=by
      have:=Nat.mul_le_mul (show x<=10000 by omega) (show y<=10000 by omega);omega
     have hlen:ys.length=n+n':=hown.1;have HST:=Hi21 (hin.out.step (by rw [← HN'.out];exact hjn) (by omega) HX.out hy hxlt hylt);rw [← ho] at HST;have HSET:=Hi21 (hown.set (k+j) (o+x*y));have sw1:IntKind.i64.wrap ((k:Int)+(j:Int))=(k:Int)+(j:Int):=IntWalk.i64_in _ (by omega);have sx:(x:Int)*(y:Int)=((x*y:Nat):Int):=(Int.natCast_mul x y).symm;have sw2:IntKind.i64.wrap ((x:Int)*(y:Int))=(x:Int)*(y:Int):=by rw [sx];exact IntWalk.i64_in _ (by omega)
     have sw3:IntKind.i64.wrap ((o:Int)+(x:Int)*(y:Int))=(o:Int)+(x:Int)*(y:Int):=by rw [sx];exact IntWalk.i64_in _ (by omega)
     have SX:Hid ((o:Int)+(x:Int)*(y:Int)=((o+x*y:Nat):Int)):=Hi21 (by rw [sx];simp);have i1:(0:Int)<=(k:Int)+(j:Int):=by omega
     have i2:(k:Int)+(j:Int)<(n:Int)+(n':Int):=by omega
     have i3:k+j<n+n':=by omega
     have i4:((k:Int)+(j:Int)).toNat=k+j:=by omega
     clear sx;have HY:=Hi21 hy;have HO:=Hi21 ho;have HOW:=Hi21 hown;clear hy ho hown hlen hprod;go_wp2;go_region_law (fail)
     all_goals
      go_wp2;go_roundw
      case rel=>first|exact ⟨j+1,_,by omega,by go_num,by have:=HSET.out;rw [← SX.out] at this;exact this.drew,HST⟩|((repeat apply Exists.intro);exact ⟨⟨j+1,_,by omega,by go_num,by have:=HSET.out;rw [← SX.out] at this;exact this.drew,HST⟩,rfl⟩)
      case measure=>simp [intOf];omega
    ·obtain rfl:n'=j:=by omega
     have HNX:Hid (RTimes L M (k+1) 0 ys):=Hi21 ((show RTimes L M k M.length ys by rw [← HN'.out];exact hin.out).next (by rw [← HN.out];exact hkn));go_wp2;go_roundw
     case rel=>exact ⟨k+1,ys,by omega,by go_num,hown,HNX⟩
     case measure=>simp [intOf];omega
  ·obtain rfl:n=k:=by omega
   have hval:=hinv.out.val;rw [HN.out,List.take_length,List.take_zero] at hval;have hv2:mv 10000 xs=mv 10000 L*mv 10000 M:=by
    rw [hval];show _+_*(_*0)=_;rw [Nat.mul_zero,Nat.mul_zero,Nat.add_zero]
   have hcar:=carry_c (xs.map Int.ofNat) (.slice (some ⟨w.heap.size,0,none⟩) (n+n') (n+n')) wr HOWN.out.holds (fun x hx=>by
    obtain ⟨y,hy,rfl⟩:=List.mem_map.1 hx;have h1:=hinv.out.all y hy;have h2:(n+1)*100000000<=5001*100000000:=Nat.mul_le_mul_right _ (by omega);constructor
    ·exact Int.le_trans (by decide) (Int.natCast_nonneg y)
    ·show (y:Int)<=_;omega) (by rw [List.length_map,HOWN.out.1];omega) (by rw [imv_nat];omega) (by rw [imv_nat,hv2];exact HF.out)
   rw [imv_nat,hv2,Int.toNat_natCast] at hcar;have HC:=Hi21 hcar;clear hcar hval hv2;go_wp2_with (go_at_call 224;refine HC.out.mono ?_;rintro e w' ⟨v',rfl,e1,hm⟩);go_ret;exact ⟨v',rfl,HOWN.out.2.2.trans e1,hm⟩
end Go.Proofs.YtmahadmefplbnaaGreatDoor
