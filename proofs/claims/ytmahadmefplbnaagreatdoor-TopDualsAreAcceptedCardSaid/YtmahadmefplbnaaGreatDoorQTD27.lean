/- Part 27. -/
import Derived.Test.YtmahadmefplbnaaGreatDoorQTDB
import Derived.Test.YtmahadmefplbnaaGreatDoorQTD8
import Derived.Test.YtmahadmefplbnaaGreatDoorQTD26
set_option maxRecDepth 100000
set_option maxHeartbeats 2000000
open Go.Proofs.Tryz
set_option linter.unusedSimpArgs false
set_option linter.unusedVariables false
namespace Go.Proofs.YtmahadmefplbnaaGreatDoor
open Go Go.RowKit
def Ow(w wr:World)(n:Nat)(xs:List Nat):Prop :=
 xs.length=n/\wr.ownsRow w.heap.size 234 1 (.slice (some ⟨w.heap.size,0,none⟩) n n) n (xs.map fun(x:Nat)=>Value.int .u32 x)/\Ext w wr
theorem Ow.cell{w wr:World}{n:Nat}{xs:List Nat}(h:Ow w wr n xs)(i:Nat)(hi:i<n):wr.cell? ⟨w.heap.size,i,none⟩=some (.int .u32 ((xs[i]?.getD 0:Nat):Int)):=by
 have:=h.2.1.cellAt i ae;rw[this];simp[show i<xs.length by rw[h.1];exact hi]
theorem Ow.free{w wr:World}{n:Nat}{xs:List Nat}(h:Ow w wr n xs)(i:Nat):wr.frozen? ⟨w.heap.size,i,none⟩=false:=h.2.1.frozenAt i
theorem Ow.set{w wr:World}{n:Nat}{xs:List Nat}(h:Ow w wr n xs)(i x:Nat){z:Int}(hz:z=(x:Int)):Ow w (wr.setCell ⟨w.heap.size,i,none⟩ (.int .u32 z)) n (xs.set i x):=by
 subst hz;have:=h.2.1.stored i (.int .u32 (x:Int));refine⟨by rw[List.length_set];exact h.1,?_,h.2.2.setCell (Nat.le_refl _) _⟩;rw[List.map_set];exact this.1
theorem Ow.drew{w wr:World}{n:Nat}{xs:List Nat}(h:Ow w wr n xs):Ow w wr.drew n xs:=⟨h.1,h.2.1.drew,h.2.2.drew⟩
theorem Ow.drewN{w wr:World}{n k:Nat}{xs:List Nat}(h:Ow w wr n xs):Ow w (wr.drewN k) n xs:=⟨h.1,h.2.1.kept (row:=none) ⟨rfl,rfl,rfl,Nat.le_refl _,fun _ _ _=>rfl⟩ (Or.inr (by simp[Value.ownBlock])),h.2.2.drewN k⟩
theorem uN{B V carry k:Nat}{out:List Nat}(h:bW B V out k carry)(hk:k<out.length)(h0:out[k]?.getD 0=0):aC B (out.set k carry)/\mv B (out.set k carry)=V:=by
 have hs:=pD B out k carry hk;rw[show out[k]=0 by simpa[hk] using h0] at hs;exact⟨dK h.lt _ h.cle,by rw[← h.sum];simpa using hs⟩
theorem nQ{out:List Nat}{k m c:Nat}(h:∀ p,m<=p->out[p]?.getD 0=0)(hk:k<m):∀ p,m<=p->(out.set k c)[p]?.getD 0=0:=fun p hp=>by
 rw[List.getElem?_set_ne ae];exact h p hp
set_option maxHeartbeats 4000000 in
theorem kr (a b:Nat) (va vb:Value) (w:World) (ha:Nv w va a) (hb:Nv w vb b) (fa:Fit a) (fb:Fit b) :
    Calls prog 134 #[va,vb] w (Dj w (a*b)):=by
 obtain⟨L,hL,cL,rfl⟩:=ha;obtain⟨M,hM,cM,rfl⟩:=hb;have hL2:=fa.mK cL rfl;have hM2:=fb.mK cM rfl;clear fa fb;obtain⟨i0,hi,hz0,hz1,hz2⟩:=info_parts iz;obtain⟨n,hn⟩:∃ n,n=L.length:=⟨_,rfl⟩
 obtain⟨n',hn'⟩:∃ n',n'=M.length:=⟨_,rfl⟩
 obtain⟨adL,capL,kL,csL,rfl,h1L,hcL,hbL,hCL⟩:=hL;obtain⟨adM,capM,kM,csM,rfl,h1M,hcM,hbM,hCM⟩:=hM;rw[← hn] at hL2 h1L hbL hCL ⊢;rw[← hn'] at hM2 h1M hbM hCM ⊢;have HN:=aj hn;have HN':=aj hn';have H1:=aj hbL;have H2:=aj hCL;have H3:=aj hbM;have H4:=aj hCM;have BL:=aj cL.lt;have BM:=aj cM.lt;clear hbL hCL hbM hCM hn hn' cL cM;go_enter func134,ntmps134;go_wp2_with (at_make;refine wpList_make_full _ rfl _ _ 110 rfl w.heap.size 234 i0 (.int .u32 0) 1 bJ hi hz0 hz1 _ _ _ _ (n+n') rfl rfl ae ae (by rw[hz2];omega) (by unfold maxLen;omega) (Nat.le_refl _) ?_;intro w0 hown0 hgrow0);rw[eA] at hown0;go_loopw [19] (fun i wr=>∃ (k:Nat) (xs:List Nat),k<=n/\i = .int .i64 k/\Ow w wr (n+n') xs/\aC 4294967296 xs/\mv 4294967296 xs=mv 4294967296 (L.take k)*mv 4294967296 M/\∀ p,k+n'<=p->xs[p]?.getD 0=0)
  (fun i _=>n-(intOf i).toNat)
 case atStart =>
  exact⟨0,List.replicate (n+n') 0,Nat.zero_le _,rfl,⟨by simp,hown0,(Below.refl _ _).grown hgrow0 (Nat.le_refl _) (fun k h=>by cases h)⟩,fun x hx=>by rw[(List.mem_replicate.1 hx).2];decide,by rw[jQ];simp[mv],fun p _=>by
   by_cases e:p<n+n'
   ·simp[e]
   ·simp[e]⟩
 case round =>
  obtain⟨k,xs,hk,rfl,hown,hbx,hval,hzer⟩:=hrel;have HBX:=aj hbx;have HVAL:=aj hval;have HOWN:=aj hown;have HZER:=aj hzer;clear hbx hval hzer;by_cases hkn:k<n
  ·obtain⟨x,hx⟩:∃ x,x=L[k]?.getD 0:=⟨_,rfl⟩
   have hxlt:x<4294967296:=by rw[hx];exact aK af BL.out k
   have hcell1:wr.cell? ⟨kL,k,none⟩=some (.int .u32 (x:Int)):=by
    rw[hx];exact((H1.o ae).2.ext hown.2.2).cell _ (H2.o k (by have:=HN.o;omega))
   have HX:=aj hx;clear hx hown;have hix1:=aQ 110 234 bJ dM (cap:=capL) (off:=0) (fun h=>(H1.o h).1) k hkn;rw[Nat.zero_add] at hix1;go_wp2;go_loopw [8,26] (fun c i wr=>∃ (j carry:Nat) (ys:List Nat),j<=n'/\i = .int .i64 j/\c = .int .u64 carry/\Ow w wr (n+n') ys/\cw 4294967296 (mv 4294967296 (L.take k)*mv 4294967296 M) x M ys k j carry/\∀ p,k+n'<=p->ys[p]?.getD 0=0)
    (fun _ i _=>n'-(intOf i).toNat)
   case atStart=>exact⟨0,0,xs,Nat.zero_le _,rfl,rfl,HOWN.o,cw.start af HBX.o HVAL.o,HZER.o⟩
   case round =>
    obtain⟨j,carry,ys,hj,rfl,rfl,hown,hin,hzer⟩:=hrel;have HIN:=aj hin;have HZR:=aj hzer;have hcl:=hin.cle;clear hin hzer;by_cases hjn:j<n'
    ·have hix2:=aQ 110 234 bJ dM (cap:=capM) (off:=0) (fun h=>(H3.o h).1) j hjn;rw[Nat.zero_add] at hix2;obtain⟨y,hy⟩:∃ y,y=M[j]?.getD 0:=⟨_,rfl⟩
     obtain⟨o,ho⟩:∃ o,o=ys[k+j]?.getD 0:=⟨_,rfl⟩
     have hylt:y<4294967296:=by rw[hy];exact aK af BM.out j
     have holt:o<4294967296:=by rw[ho];exact aK af HIN.o.lt (k+j)
     have hcell2:wr.cell? ⟨kM,j,none⟩=some (.int .u32 (y:Int)):=by
      rw[hy];exact((H3.o ae).2.ext hown.2.2).cell _ (H4.o j (by have:=HN'.o;omega))
     have hcell3:wr.cell? ⟨w.heap.size,k+j,none⟩=some (.int .u32 (o:Int)):=by
      rw[ho];exact hown.cell (k+j) ae
     have hfree:=hown.free (k+j);have hprod:x*y<=18446744065119617025:=by
      have:=Nat.mul_le_mul (show x<=4294967295 by omega) (show y<=4294967295 by omega);omega
     have hprod':(x:Int)*(y:Int)<=18446744065119617025:=by
      have:((x*y:Nat):Int)<=18446744065119617025:=ae;rwa[Int.natCast_mul] at this
     have hprod0:(0:Int)<=(x:Int)*(y:Int):=Int.mul_nonneg ae ae;have HY:=aj hy;have HO:=aj ho;have HOW:=aj hown;clear hy ho hown;have hlen:ys.length=n+n':=HOW.o.1;have HST:=aj (HIN.o.tG af hxlt BM.out (by have:=HN'.o;omega) ae HO.o HY.o);have HCE:Hid (((carry:Int)+((x:Int)*(y:Int)+(o:Int)))=((carry+(o+x*y):Nat):Int)):=aj (by rw[Int.natCast_add,Int.natCast_add,Int.natCast_mul];omega);clear hlen;go_wp2;go_roundw
     case rel=>exact⟨j+1,(carry+(o+x*y)) / 4294967296,_,ae,by go_num,by rw[HCE.o];rfl,HOW.o.set (k+j) ((carry+(o+x*y)) % 4294967296) (by rw[HCE.o];rfl),HST.o,nQ HZR.o ae⟩
     case measure=>simp[intOf];omega
    ·obtain rfl:n'=j:=ae;have hdone:=(HN'.o▸HIN.o:cw 4294967296 (mv 4294967296 (L.take k)*mv 4294967296 M) x M ys k M.length carry).done;rw[← HN'.o,show mv 4294967296 (L.take k)*mv 4294967296 M+4294967296 ^ k*(x*mv 4294967296 M)=mv 4294967296 (L.take (k+1))*mv 4294967296 M by rw[lT,HX.o]] at hdone;have htop:=uN hdone (by rw[hown.1];omega) (HZR.o _ (Nat.le_refl _));have HT:=aj htop;have HOW:=aj hown;obtain⟨u,hcell3⟩:∃ u,wr.cell? ⟨w.heap.size,k+n',none⟩=some u:=⟨_,hown.cell (k+n') ae⟩
     have hfree:=hown.free (k+n');clear hdone htop hown;go_wp2;go_roundw
     case rel=>exact⟨k+1,_,ae,by go_num,HOW.o.set (k+n') carry ae,HT.o.1,HT.o.2,fun p hp=>nQ (m:=k+1+n') (fun q hq=>HZR.o q ae) ae p hp⟩
     case measure=>simp[intOf];omega
  ·obtain rfl:n=k:=ae;clear HOWN;go_wp2_with (go_at_call 209;refine(gB hown.2.1 hown.2.2 HBX.o HVAL.o).mono ?_;rintro e w' ⟨v',rfl,hx',hm,hk⟩);go_ret;exact⟨v',rfl,hx',by rw[List.take_of_length_le (by have:=HN.o;omega)] at hm;exact hm,hk⟩
theorem vR(x h y:Nat)(hx:x<4294967296)(hh:h=x / 2):bits .or .u32 (h:Int) ((y:Int)*2147483648 % 4294967296)=((x / 2+y % 2*2147483648:Nat):Int):=by
 have e2:(y:Int)*2147483648 % 4294967296=((y % 2*2147483648:Nat):Int):=ae;rw[hh,e2,u32_or_nat _ _ ae ae,Nat.or_comm,nat_join 31 (y % 2*2147483648) (x / 2) ae ae,Nat.add_comm]
theorem vQ {w W:World} {n k x:Nat} {L xs:List Nat} (hk:k<n) (h:Ow w W n ((xs.set k (x / 2)).set k (sR L k))) (hl:xs.length=n) (hv:∀ p,p<k->xs[p]?.getD 0=sR L p) (hb:aC 4294967296 xs) (hlt:sR L k<4294967296) (hx:x<4294967296) :
    ∃ (k':Nat) (ys:List Nat),k'<=n/\Value.int .i64 ((k:Int)+1) = .int .i64 k'/\Ow w W n ys/\(∀ p,p<k'->ys[p]?.getD 0=sR L p)/\aC 4294967296 ys :=
 ⟨k+1,_,hk,rfl,h,fun p hp=>by
  by_cases e:p=k
  ·subst e;rw[List.getElem?_set_self (by rw[List.length_set,hl];exact hk),Option.getD_some]
  ·rw[List.getElem?_set_ne (fun h=>e h.symm),List.getElem?_set_ne (fun h=>e h.symm)];exact hv p (Nat.lt_of_le_of_ne (Nat.lt_succ_iff.1 hp) e),dK (dK hb _ (Nat.lt_of_le_of_lt (Nat.div_le_self _ _) hx)) _ hlt⟩
theorem k9(a:Nat)(va:Value)(w:World)(ha:Nv w va a)(fa:Fit a):Calls prog 255 #[va] w (Dj w (a / 2)):=by
 obtain⟨L,hL,cL,rfl⟩:=ha;have hL2:=fa.mK cL rfl;clear fa;obtain⟨i0,hi,hz0,hz1,hz2⟩:=info_parts iz;obtain⟨n,hn⟩:∃ n,n=L.length:=⟨_,rfl⟩
 obtain⟨adL,capL,kL,csL,rfl,h1L,hcL,hbL,hCL⟩:=hL;rw[← hn] at hL2 h1L hbL hCL ⊢;have HN:=aj hn;have H1:=aj hbL;have H2:=aj hCL;have BL:=aj cL.lt;clear hbL hCL hn cL;go_enter func255,ntmps255;go_wp2_with (at_make;refine wpList_make_full _ rfl _ _ 110 rfl w.heap.size 234 i0 (.int .u32 0) 1 bJ hi hz0 hz1 _ _ _ _ n rfl rfl ae ae (by rw[hz2];omega) (by unfold maxLen;omega) (Nat.le_refl _) ?_;intro w0 hown0 hgrow0);rw[eA] at hown0;go_loopw [11] (fun i wr=>∃ (k:Nat) (xs:List Nat),k<=n/\i = .int .i64 k/\Ow w wr n xs/\(∀ p,p<k->xs[p]?.getD 0=sR L p)/\aC 4294967296 xs)
  (fun i _=>n-(intOf i).toNat)
 case atStart =>
  exact⟨0,List.replicate n 0,Nat.zero_le _,rfl,⟨by simp,hown0,(Below.refl _ _).grown hgrow0 (Nat.le_refl _) (fun k h=>by cases h)⟩,fun p hp=>absurd hp (Nat.not_lt_zero p),fun x hx=>by rw[(List.mem_replicate.1 hx).2];decide⟩
 case round =>
  obtain⟨k,xs,hk,rfl,hown,hval,hbx⟩:=hrel;have HBX:=aj hbx;have HVAL:=aj hval;have HOWN:=aj hown;clear hbx hval;by_cases hkn:k<n
  ·obtain⟨x,hx⟩:∃ x,x=L[k]?.getD 0:=⟨_,rfl⟩
   have hxlt:x<4294967296:=by rw[hx];exact aK af BL.out k
   have hcell1:wr.cell? ⟨kL,k,none⟩=some (.int .u32 (x:Int)):=by
    rw[hx];exact((H1.o ae).2.ext hown.2.2).cell _ (H2.o k (by have:=HN.o;omega))
   obtain⟨u,hcell3⟩:∃ u,wr.cell? ⟨w.heap.size,k,none⟩=some u:=⟨_,hown.cell k hkn⟩
   have hfree:=hown.free k;have HX:=aj hx;clear hx hown;have hix1:=aQ 110 234 bJ dM (cap:=capL) (off:=0) (fun h=>(H1.o h).1) k hkn;rw[Nat.zero_add] at hix1;have HO1:=aj (HOWN.o.set k (x / 2) (z:=(x:Int) / 2) ae);have HLT:=aj (CH BL.out k);by_cases hk1:k+1<n
   ·obtain⟨y,hy⟩:∃ y,y=L[k+1]?.getD 0:=⟨_,rfl⟩
    obtain⟨h,HX2⟩:∃ h,Hid (h=x / 2):=⟨_,aj rfl⟩
    have HH:Hid (bits .or .u32 (h:Int) ((y:Int)*2147483648 % 4294967296)=((sR L k:Nat):Int)):=aj (by rw[vR x h y hxlt HX2.o,sR,← HX.o,← hy]);have hylt:y<4294967296:=by rw[hy];exact aK af BL.out (k+1)
    have hk2:(k:Int)+1<(n:Int):=ae;have hcell2:wr.cell? ⟨kL,k+1,none⟩=some (.int .u32 (y:Int)):=by
     rw[hy];exact((H1.o ae).2.ext HOWN.o.2.2).cell _ (H2.o (k+1) (by have:=HN.o;omega))
    have hlL:kL<w.heap.size:=(H1.o ae).2.lt;have HLL:=aj hlL;have HC2:=aj hcell2;have hix2:=aQ 110 234 bJ dM (cap:=capL) (off:=0) (fun h=>(H1.o h).1) (k+1) hk1;rw[Nat.zero_add] at hix2;have HY:=aj hy;clear hy hcell2 hlL;go_upto_region 7 with fail
    refine ay (fun W=>Ow w W n (xs.set k (x / 2))/\W.cell? ⟨kL,k+1,none⟩=some (.int .u32 (y:Int))) ⟨HO1.o,(kN (by have:=HLL.o;omega)).trans HC2.o⟩ ?_;rintro w2 ⟨ho2,hcell2⟩;have hcell4:w2.cell? ⟨w.heap.size,k,none⟩=some (.int .u32 (h:Int)):=by have:=ho2.cell k hkn;rw[this,List.getElem?_set_self (by rw[HOWN.o.1];exact hkn),HX2.o];rfl
    have hfree2:=ho2.free k;have HO2:=aj ho2;clear ho2 hcell1 hcell3 hfree;have sw1:IntKind.i64.wrap ((k:Int)+1)=(k:Int)+1:=IntWalk.i64_in _ ae;have i4:((k:Int)+1).toNat=k+1:=ae;have i3:k+1<n:=hk1;have i1:(0:Int)<=(k:Int)+1:=ae;have hix3:∀ w,(Instr.indexAt 110 (.slice adL n capL) (.int .i64 ((k:Int)+1))).run prog w = .ok (.pointer (some ⟨kL,k+1,none⟩)) w:=hix2;clear hix2;go_region_law (fail)
    all_goals
     go_wp2;go_roundw
     case rel=>exact vQ hkn (HO2.o.set k (sR L k) HH.o).drew HOWN.o.1 HVAL.o HBX.o HLT.o hxlt
     case measure=>simp[intOf];omega
   ·have hk2:¬ (k:Int)+1<(n:Int):=ae;have HH:Hid (x / 2=sR L k):=aj (by rw[sR,← HX.o,List.getElem?_eq_none (l:=L) (i:=k+1) (by have:=HN.o;omega)];simp);go_wp2;go_roundw
    case rel=>exact⟨k+1,_,ae,by go_num,HO1.o,fun p hp=>by
     by_cases e:p=k
     ·subst e;rw[List.getElem?_set_self (by rw[HOWN.o.1];exact hkn)];exact HH.o
     ·rw[List.getElem?_set_ne ae];exact HVAL.o p ae,dK HBX.o _ (by rw[HH.o];exact HLT.o)⟩
    case measure=>simp[intOf];omega
  ·obtain rfl:n=k:=ae;clear HOWN;have hmv:mv 4294967296 xs=mv 4294967296 L / 2:=ur (hown.1.trans HN.o) (by rw[← HN.o];exact HVAL.o);go_wp2_with (go_at_call 209;refine(gB hown.2.1 hown.2.2 HBX.o hmv).mono ?_;rintro e w' ⟨v',rfl,hx',hm,hk⟩);go_ret;exact⟨v',rfl,hx',hm,hk⟩
theorem Au{A B b t:Nat}(h:2 ^ t*b<=A+B)(hb:0<b)(hf:Fit (A+B)):t<64000:=by
 have h1:2 ^ t<=A+B:=Nat.le_trans (Nat.le_mul_of_pos_right _ hb) h;have h2:=Nat.lt_of_le_of_lt h1 (Bw hf);have h3:(4294967296:Nat) ^ kR=2 ^ (32*kR):=by rw[Nat.pow_mul]
 rw[h3] at h2;have:=(Nat.pow_lt_pow_iff_right (a:=2) af).1 h2;exact this
def EZ(w:World)(n:Nat)(e:Ending)(w':World):Prop:=∃ v,e = .returned v/\Ext w w'/\Nv w' v n
theorem ue{w:World}{ad:Option Addr}{k cap n:Nat}(h:Nv w (.slice ad k cap) n)(hn:0<n):0<k:=by
 rcases Nat.eq_zero_or_pos k with e|e
 ·have:=h.qX.1 e;omega
 ·exact e
theorem sH(A B:Nat)(va vb:Value)(w:World)(ha:Nv w va A)(hb:Nv w vb B)(pa:0<A)(pb:0<B)(hf:Fit (A+B)):Calls prog 192 #[va,vb] w (EZ w (Nat.gcd A B)):=by
 have HF:=aj hf;have PA:=aj pa;have PB:=aj pb;obtain⟨xa0,xn0,xc0,rfl⟩:=ha.cH;obtain⟨ya0,yn0,yc0,rfl⟩:=hb.cH;have HA:=aj ha;have HB:=aj hb;clear hf pa pb ha hb;go_enter func192,ntmps192;go_wp2;go_loopg [0,1,5] (A+B) (fun gk x y t W=>∃ (a b k:Nat) (xa ya:Option Addr) (xn xc yn yc:Nat),x = .slice xa xn xc/\y = .slice ya yn yc/\t = .int .i64 k/\Nv W (.slice xa xn xc) a/\Nv W (.slice ya yn yc) b/\ft A B a b k/\0<a/\a<=A+B/\b<=A+B/\a+b<=gk/\Ext w W)
 case atStart=>exact⟨A,B,0,_,_,_,_,_,_,rfl,rfl,rfl,HA.o,HB.o,ft.start PA.out PB.out,PA.out,ae,ae,Nat.le_refl _,Ext.refl _⟩
 case round =>
  obtain⟨a,b,k,xa,ya,xn,xc,yn,yc,rfl,rfl,rfl,mx,my,hg,hp,la,lb,hk,hx⟩:=hrel;have HMX:=aj mx;have HMY:=aj my;have HGC:=aj hg;have HX:=aj hx;have HLA:=aj la;have HLB:=aj lb;have HP:=aj hp;have HK:=aj hk;have hk6:=Au hg.le hg.pos HF.o;have HBP:=aj hg.pos;clear mx my hg la lb hp hk;by_cases ho:a % 2=0/\b % 2=0
  ·have HO:=aj ho;have da:decide (a % 2=1)=false:=decide_eq_false ae;have db:decide (b % 2=1)=false:=decide_eq_false ae;clear ho;go_wp2_with (first
    | (go_at_call 254;((with_reducible refine(gQ a (.slice xa xn xc) _ HMX.o).mono ?_);rw[da];rintro e w1 ⟨rfl,e1⟩))
    | (go_at_call 254;refine(gQ b (.slice ya yn yc) _ (HMY.o.ext e1)).mono ?_;rw[db];rintro e w2 ⟨rfl,e2⟩)
    | (go_at_call 255;((with_reducible refine(k9 a (.slice xa xn xc) _ (HMX.o.ext (e1.trans e2)) (HF.o.le HLA.o)).mono ?_);rintro e w3 ⟨v3,rfl,e3,hv3,_⟩;obtain⟨qa,ql,qc,rfl⟩:=hv3.cH))
    | (go_at_call 255;refine(k9 b (.slice ya yn yc) _ (HMY.o.ext ((e1.trans e2).trans e3)) (HF.o.le HLB.o)).mono ?_;rintro e w4 ⟨v4,rfl,e4,hv4,_⟩;obtain⟨ra,rl,rc,rfl⟩:=hv4.cH))
   go_roundg (a / 2+b / 2)
   case rel=>exact⟨a / 2,b / 2,k+1,_,_,_,_,_,_,rfl,rfl,by go_num,hv3.ext e4,hv4,HGC.o.two HO.o.1 HO.o.2,by have:=HP.o;have:=HO.o;omega,by have:=HLA.o;omega,by have:=HLB.o;omega,Nat.le_refl _,(((hx.trans e1).trans e2).trans e3).trans e4⟩
   case measure=>have:=HP.o;have:=HK.o;omega
  ·have HO:=aj ho;have key:decide (a % 2=1)=true∨(decide (a % 2=1)=false/\decide (b % 2=1)=true):=by
    rcases Nat.mod_two_eq_zero_or_one a with h|h
    ·exact Or.inr ⟨decide_eq_false ae,decide_eq_true ae⟩
    ·exact Or.inl (decide_eq_true h)
   have HG0:=aj (show a % 2=1∨b % 2=1 by omega);clear ho;rcases key with da|⟨da,db⟩
   all_goals
    go_wp2_with (first
     | (go_at_call 254;((with_reducible refine(gQ a (.slice xa xn xc) _ HMX.o).mono ?_);rw[da];rintro e w1 ⟨rfl,e1⟩;have e2:=e1))
     | (go_at_call 254;refine(gQ b (.slice ya yn yc) _ (HMY.o.ext e1)).mono ?_;rw[db];rintro e w2 ⟨rfl,e3⟩;have e2:=e1.trans e3))
    clear da;go_loopg [0,1] (a+b) (fun gk x y W=>∃ (a b:Nat) (xa ya:Option Addr) (xn xc yn yc:Nat),x = .slice xa xn xc/\y = .slice ya yn yc/\Nv W (.slice xa xn xc) a/\Nv W (.slice ya yn yc) b/\ft A B a b k/\(a % 2=1∨b % 2=1)/\a<=A+B/\b<=A+B/\a+b<=gk/\Ext w W)
    case atStart=>exact⟨a,b,_,_,_,_,_,_,rfl,rfl,HMX.o.ext e2,HMY.o.ext e2,HGC.o,HG0.o,HLA.o,HLB.o,Nat.le_refl _,HX.o.trans e2⟩
    case round =>
     clear HMX HMY HGC HX HLA HLB HP HK HBP HO HG0 hx;obtain⟨a,b,xa,ya,xn,xc,yn,yc,rfl,rfl,mx,my,hg,hpar,la,lb,hk,hx⟩:=hrel;rename World=>wL
     have HMX:=aj mx;have HMY:=aj my;have HGC:=aj hg;have HX:=aj hx;have HLA:=aj la;have HLB:=aj lb;have HK:=aj hk;have HPA:=aj hpar;have HBP:=aj hg.pos;have hl:=mx.qX;clear mx my hg la lb hk hpar hx;by_cases h0:xn=0
     ·have ha:=hl.1 h0;subst ha;subst h0;have HGE:=aj HGC.o.done;clear hl;go_wp2;go_loopw [1,43] (fun y i W=>∃ (j:Nat) (ya:Option Addr) (yn yc:Nat),i = .int .i64 j/\y = .slice ya yn yc/\j<=k/\Nv W (.slice ya yn yc) (2 ^ j*b)/\Ext w W) (fun _ i _=>k-(intOf i).toNat)
      case atStart=>exact⟨0,_,_,_,rfl,rfl,Nat.zero_le _,by rw[Nat.pow_zero,Nat.one_mul];exact HMY.o,HX.o⟩
      case round =>
       obtain⟨j,ya,yn,yc,rfl,rfl,hj,my,hx⟩:=hrel;by_cases hjk:j<k
       ·have HFJ:=aj (HF.o.le (Nat.le_trans (Nat.mul_le_mul_right b (Nat.pow_le_pow_right (by decide:0<2) hj)) HGC.o.le));go_wp2_with (go_at_call 136;refine(mC _ _ _ _ _ my my HFJ.o HFJ.o).mono ?_;rintro e w5 ⟨v5,rfl,e5,hv5,_⟩;obtain⟨ra,rl,rc,rfl⟩:=hv5.cH);go_roundw
        case rel=>exact⟨j+1,_,_,_,by go_num,rfl,hjk,by rw[Nat.pow_succ,Nat.mul_assoc,Nat.mul_left_comm,Nat.two_mul];exact hv5,hx.trans e5⟩
        case measure=>simp[intOf];omega
       ·obtain rfl:j=k:=ae;go_wp2;go_ret;exact⟨_,rfl,hx,by rw[HGE.o];exact my⟩
     ·have hp:0<a:=by
       rcases Nat.eq_zero_or_pos a with h|h
       ·exact absurd (hl.2 h) h0
       ·exact h
      have hxn:0<xn:=ae;have HP:=aj hp;clear hl hp h0;go_wp2
      -- a is halved until it is odd
      go_loopg [0] a (fun gk x W=>∃ (c:Nat) (xa:Option Addr) (xn xc:Nat),x = .slice xa xn xc/\Nv W (.slice xa xn xc) c/\ft A B c b k/\(c % 2=1∨b % 2=1)/\0<c/\c<=a/\c<=gk/\Ext wL W)
      case atStart=>exact⟨a,_,_,_,rfl,HMX.o,HGC.o,HPA.o,HP.o,Nat.le_refl _,Nat.le_refl _,Ext.refl _⟩
      case round =>
       obtain⟨c,xa,xn,xc,rfl,mc,hg,hpar,hp,hca,hk,hx⟩:=hrel;rename World=>wM
       have HMC:=aj mc;have HG2:=aj hg;have HPC:=aj hpar;have HCP:=aj hp;have HCA:=aj hca;have HCK:=aj hk;have HXM:=aj hx;clear mc hg hpar hp hca hk hx;by_cases hc:c % 2=1
       ·have dc:decide (c % 2=1)=true:=decide_eq_true hc;have HC:=aj hc;clear hc;go_wp2_with (go_at_call 254;refine(gQ c _ _ HMC.o).mono ?_;rw[dc];rintro e w5 ⟨rfl,e5⟩);have HM5:=aj (HMC.o.ext e5);have HY5:=aj (HMY.o.ext (HXM.o.trans e5));have HX5:=aj ((HX.o.trans HXM.o).trans e5);clear e5 dc
        -- then b
        go_loopg [1] b (fun gk y W=>∃ (d:Nat) (ya:Option Addr) (yn yc:Nat),y = .slice ya yn yc/\Nv W (.slice ya yn yc) d/\ft A B c d k/\d<=b/\d<=gk/\Ext w5 W)
        case atStart=>exact⟨b,_,_,_,rfl,HY5.o,HG2.o,Nat.le_refl _,Nat.le_refl _,Ext.refl _⟩
        case round =>
         obtain⟨d,ya,yn,yc,rfl,md,hg,hdb,hk,hx⟩:=hrel;rename World=>wN
         have HMD:=aj md;have HG3:=aj hg;have HDB:=aj hdb;have HDK:=aj hk;have HXN:=aj hx;have HDP:=aj hg.pos;clear md hg hdb hk hx;by_cases hd:d % 2=1
         ·have dd:decide (d % 2=1)=true:=decide_eq_true hd;clear hd;have HMC5:=aj (HM5.o.ext HXN.o);by_cases hcd:c<d
          ·have HCD:=aj (Nat.le_of_lt hcd);go_wp2_with (first
            | (go_at_call 254;refine(gQ d _ _ HMD.o).mono ?_;rw[dd];rintro e w6 ⟨rfl,e6⟩)
            | (go_at_call 137;refine(fQ c d _ _ _ (HMC5.o.ext e6) (HMD.o.ext e6)).mono ?_;rintro e w7 ⟨cc,rfl,e7,k1,k2⟩;have k3:=k1.2 hcd;clear k1 k2)
            | (go_at_call 138;refine(mA d c _ _ _ ((HMD.o.ext e6).ext e7) ((HMC5.o.ext e6).ext e7) (HF.o.le (Nat.le_trans HDB.o HLB.o)) HCD.o).mono ?_;rintro e w8 ⟨v8,rfl,e8,hv8,_⟩;obtain⟨ra,rl,rc,rfl⟩:=hv8.cH))
           go_roundg (d-c+c)
           case rel=>exact⟨d-c,c,_,_,_,_,_,_,rfl,rfl,hv8,((HMC5.o.ext e6).ext e7).ext e8,HG3.o.swap HCP.o HCD.o,Or.inr HC.o,by have:=HDB.o;have:=HLB.o;omega,Nat.le_trans HCA.o HLA.o,Nat.le_refl _,(((HX5.o.trans HXN.o).trans e6).trans e7).trans e8⟩
           case measure=>have:=HK.o;have:=HDB.o;have:=HP.o;omega
          ·have HCD:=aj (Nat.le_of_not_lt hcd);have HDO:=aj (of_decide_eq_true dd);go_wp2_with (first
            | (go_at_call 254;refine(gQ d _ _ HMD.o).mono ?_;rw[dd];rintro e w6 ⟨rfl,e6⟩)
            | (go_at_call 137;refine(fQ c d _ _ _ (HMC5.o.ext e6) (HMD.o.ext e6)).mono ?_;rintro e w7 ⟨cc,rfl,e7,k1,k2⟩;have k3:¬ cc<0:=fun h=>hcd (k1.1 h);clear k1 k2)
            | (go_at_call 138;refine(mA c d _ _ _ ((HMC5.o.ext e6).ext e7) ((HMD.o.ext e6).ext e7) (HF.o.le (Nat.le_trans HCA.o HLA.o)) HCD.o).mono ?_;rintro e w8 ⟨v8,rfl,e8,hv8,_⟩;obtain⟨ra,rl,rc,rfl⟩:=hv8.cH))
           go_roundg (c-d+d)
           case rel=>exact⟨c-d,d,_,_,_,_,_,_,rfl,rfl,hv8,((HMD.o.ext e6).ext e7).ext e8,HG3.o.sub HCD.o,Or.inr HDO.o,by have:=HCA.o;have:=HLA.o;omega,Nat.le_trans HDB.o HLB.o,Nat.le_refl _,(((HX5.o.trans HXN.o).trans e6).trans e7).trans e8⟩
           case measure=>have:=HK.o;have:=HCA.o;have:=HCD.o;have:=HBP.o;omega
         ·have dd:decide (d % 2=1)=false:=decide_eq_false hd;have hd0:d % 2=0:=ae;have HD0:=aj hd0;clear hd hd0;go_wp2_with (first
           | (go_at_call 254;refine(gQ d _ _ HMD.o).mono ?_;rw[dd];rintro e w6 ⟨rfl,e6⟩)
           | (go_at_call 255;refine(k9 d _ _ (HMD.o.ext e6) (HF.o.le (Nat.le_trans HDB.o HLB.o))).mono ?_;rintro e w7 ⟨v7,rfl,e7,hv7,_⟩;obtain⟨ra,rl,rc,rfl⟩:=hv7.cH))
          go_roundg (d / 2)
          case rel=>exact⟨d / 2,_,_,_,rfl,hv7,HG3.o.right HC.o HD0.o,Nat.le_trans (Nat.div_le_self _ _) HDB.o,Nat.le_refl _,(HXN.o.trans e6).trans e7⟩
          case measure=>have:=HDK.o;have:=HDP.o;omega
       ·have dc:decide (c % 2=1)=false:=decide_eq_false hc;have hc0:c % 2=0:=ae;have HC0:=aj hc0;have HB1:=aj (show b % 2=1 by have:=HPC.o;omega);clear hc hc0;go_wp2_with (first
         | (go_at_call 254;refine(gQ c _ _ HMC.o).mono ?_;rw[dc];rintro e w5 ⟨rfl,e5⟩)
         | (go_at_call 255;refine(k9 c _ _ (HMC.o.ext e5) (HF.o.le (Nat.le_trans HCA.o HLA.o))).mono ?_;rintro e w6 ⟨v6,rfl,e6,hv6,_⟩;obtain⟨ra,rl,rc,rfl⟩:=hv6.cH))
        go_roundg (c / 2)
        case rel=>exact⟨c / 2,_,_,_,rfl,hv6,HG2.o.left HC0.o HB1.o,Or.inr HB1.o,by have:=HCP.o;have:=HC0.o;omega,Nat.le_trans (Nat.div_le_self _ _) HCA.o,Nat.le_refl _,(HXM.o.trans e5).trans e6⟩
        case measure=>have:=HCK.o;have:=HCP.o;omega
theorem Nv.other{w:World}{v:Value}{n:Nat}{a:Addr}(h:Nv w v n)(u:Value)(hk:∀ k,v.ownBlock=some k->k≠a.block):Nv (w.setCell a u) v n:=by
 obtain⟨l,⟨ad,cap,b,cs,h1,h2,h3,h4,h5⟩,c,d⟩:=h;exact⟨l,⟨ad,cap,b,cs,h1,h2,h3,fun h0=>⟨(h4 h0).1,(h4 h0).2.other u (hk b (by rw[h1,(h4 h0).1];rfl))⟩,h5⟩,c,d⟩
theorem Ow.ext{w wr W:World}{n:Nat}{xs:List Nat}(h:Ow w wr n xs)(e:Ext wr W):Ow w W n xs:=by
 obtain⟨h1,⟨h2,h3⟩,h4⟩:=h;refine⟨h1,⟨h2,?_⟩,h4.trans e⟩;rcases h3 with h3|⟨g,cap,cur,a,b,c,d⟩
 ·exact Or.inl h3
 ·refine Or.inr ⟨g,cap,cur,a,b,(Below.block e g ?_).trans c,d⟩;rcases Nat.lt_or_ge g wr.heap.size with h'|h'
  ·exact h'
  ·rw[Array.getElem?_eq_none h'] at c;simp at c
theorem Nv.one{w:World}{b:Nat}(h:ax w b #[.int .u32 1] 234):Nv w (.slice (some ⟨b,0,none⟩) 1 1) 1 :=
 ⟨[1],⟨_,1,b,_,rfl,af,af,fun _=>⟨rfl,h⟩,fun i hi=>by obtain rfl:i=0:=(by simpa using hi);rfl⟩,⟨fun x hx=>by simp at hx;subst hx;decide,af⟩,rfl⟩
theorem Ab(q t:Nat)(h:q<32)(ht:2 ^ q=t):IntKind.u32.wrap ((2:Int) ^ q)=(t:Int):=by
 have h1:2 ^ q<2 ^ 32:=Nat.pow_lt_pow_right af h;have h2:((2:Int) ^ q)=((2 ^ q:Nat):Int):=by simp
 rw[ht] at h1 h2;rw[h2,IntKind.wrap_u32',Int.emod_eq_of_lt ae ae]
theorem Ch(d q:Nat)(hd:d+2 ^ q<4294967296)(hz:d % 2 ^ (q+1)=0):bits .or .u32 (d:Int) ((2 ^ q:Nat):Int)=((d+2 ^ q:Nat):Int):=by
 rw[u32_or_nat _ _ ae ae,nat_join (q+1) d (2 ^ q) hz (Nat.pow_lt_pow_right af ae)]
theorem tU(a b:Nat)(va vb:Value)(w:World)(ha:Nv w va a)(hb:Nv w vb b)(pb:0<b)(hf:Fit (a+2*b+2)):Calls prog 210 #[va,vb] w (Dj w (a / b)):=by
 obtain⟨L,hL,cL,hLa⟩:=ha;have hL2:=(hf.le (by omega:a<=_)).mK cL hLa;have hlt:=iw cL.lt;obtain⟨i0,hi,hz0,hz1,hz2⟩:=info_parts iz;obtain⟨n,hn⟩:∃ n,n=L.length:=⟨_,rfl⟩
 obtain⟨adL,capL,kL,csL,rfl,h1L,hcL,hbL,hCL⟩:=hL;obtain⟨adM,nM,capM,rfl⟩:=hb.cH;rw[← hn] at hL2 h1L hbL hCL hlt ⊢;have HA32:Hid (a<2 ^ (32*n)):=aj (by rw[Nat.pow_mul,← hLa];exact hlt);have HN:=aj hn;have HM:=aj hb;have HF:=aj hf;have PB:=aj pb;have HLA:=aj hLa;have H1:=aj hbL;have H2:=aj hCL;have BL:=aj cL.lt;clear hbL hCL hn cL hb hf pb hLa hlt;go_enter func210,ntmps210;go_wp2_with (at_make;refine wpList_make_full _ rfl _ _ 110 rfl w.heap.size 234 i0 (.int .u32 0) 1 bJ hi hz0 hz1 _ _ _ _ n rfl rfl ae ae (by rw[hz2];omega) (by unfold maxLen;omega) (Nat.le_refl _) ?_;intro w0 hown0 hgrow0);rw[eA] at hown0;go_loopw [6,7] (fun r i wr=>∃ (j R:Nat) (xs:List Nat) (ra:Option Addr) (rn rc:Nat),r = .slice ra rn rc/\i = .int .i64 ((j:Int)-1)/\j<=32*n/\Nv wr (.slice ra rn rc) R/\wQ a b n xs j R/\Ow w wr n xs/\(∀ k,(Value.slice ra rn rc).ownBlock=some k->k≠w.heap.size)/\w.heap.size<wr.heap.size)
  (fun _ i _=>(intOf i+1).toNat)
 case atStart =>
  exact⟨32*n,0,List.replicate n 0,none,0,0,rfl,by go_num,Nat.le_refl _,Nv.nil af,wQ.start HA32.o,⟨by simp,hown0,(Below.refl _ _).grown hgrow0 (Nat.le_refl _) (fun k h=>by cases h)⟩,fun k h=>absurd h (by simp[Value.ownBlock]),(hown0.lt _ rfl).2⟩
 case round =>
  obtain⟨j,R,xs,ra,rn,rc,rfl,rfl,hj,hr,hov,hown,hne,hsz⟩:=hrel;have HR:=aj hr;have HOV:=aj hov;have HOW:=aj hown;have HNE:=aj hne;clear hr hov hown hne;by_cases hj0:0<j
  ·obtain⟨p,rfl⟩:∃ p,j=p+1:=⟨j-1,ae⟩
   have ej:(((p+1:Nat):Int)-1)=(p:Int):=ae;rw[ej];clear ej;have hRb:R<b:=by rw[HOV.o.r];exact Nat.mod_lt _ PB.out
   have HFR:=aj (HF.o.le (by omega:R<=_));have HF2:=aj (HF.o.le (by omega:R+R<=_));have HF1:=aj (HF.o.le (by omega:1<=_));have HF3:=aj (HF.o.le (by omega:R+R+1<=_));obtain⟨m,hm⟩:∃ m,p / 32=m:=⟨_,rfl⟩
   obtain⟨q,hq⟩:∃ q,p % 32=q:=⟨_,rfl⟩
   have em:(p:Int) / 32=(m:Int):=ae;have eq:(p:Int) % 32=(q:Int):=ae;have hmn:m<n:=ae;have hq32:q<32:=ae;have HPM:=aj (show p=32*m+q by omega);have hix1:=aQ 110 234 bJ dM (cap:=capL) (off:=0) (fun h=>(H1.o h).1) m hmn;rw[Nat.zero_add] at hix1;obtain⟨x,hx⟩:∃ x,x=L[m]?.getD 0:=⟨_,rfl⟩
   have hxlt:x<4294967296:=by rw[hx];exact aK af BL.out m
   have hcell0:wr.cell? ⟨kL,m,none⟩=some (.int .u32 (x:Int)):=by
    rw[hx];exact((H1.o ae).2.ext HOW.o.2.2).cell _ (H2.o m (by have:=HN.o;omega))
   have HC0:=aj hcell0;have HX:=aj hx;have HRB:=aj hRb;obtain⟨z,hz⟩:∃ z,z=x / 2 ^ q:=⟨_,rfl⟩
   have hzi:(x:Int) / 2 ^ q=(z:Int):=by rw[hz,Int.natCast_ediv];simp
   have hzl:z<4294967296:=by rw[hz];exact Nat.lt_of_le_of_lt (Nat.div_le_self _ _) hxlt
   have hz1:bits .and .u32 (z:Int) 1=((z % 2:Nat):Int):=rL z hzl;have HBT:=aj (C4 BL.out m q hq32);have HZ:=aj hz;clear hm hq hcell0 hx hRb hz hzl;go_upto_region 7 with(go_at_call 136;refine(mC R R _ _ _ HR.o HR.o HFR.o HFR.o).mono ?_;rintro e w5 ⟨v5,rfl,e5,hv5,hk5⟩;obtain⟨qa,ql,qc,rfl⟩:=hv5.cH;have hcell1:=e5.keeps HC0.o)
   have HBIT:Hid (z % 2=a / 2 ^ p % 2):=aj (by have:=HBT.o;rw[HLA.o,← HPM.o,← HX.o,← HZ.o] at this;exact this);have HX5:=aj (HOW.o.2.2.trans e5)
   -- the rest with the bit
   have HCX:Hid (∀ W,Ext wr W->Ow w W n xs):=aj fun W e=>HOW.o.ext e
   have key:∃ T,T=2*R+a / 2 ^ p % 2:=⟨_,rfl⟩
   have hb2:=Nat.mod_two_eq_zero_or_one z;rcases hb2 with hb|hb
   all_goals first
    | (have hz2 : bits .and .u32 (z : Int) 1 = 0 := by rw [hz1, hb]; rfl
       have HT:Hid (R+R=2*R+a / 2 ^ p % 2):=aj (by rw[← HBIT.o,hb];omega);clear hz1 hb;go_upto_region 9 with fail
       refine ay (fun W=>Ow w W n xs/\Ext wr W/\Nv W (.slice qa ql qc) (2*R+a / 2 ^ p % 2)/\(∀ k,(Value.slice qa ql qc).ownBlock=some k->w.heap.size<k)) ⟨HCX.o _ e5,e5,by rw[← HT.o];exact hv5,fun k hk=>Nat.lt_of_lt_of_le hsz (hk5 k hk)⟩ ?_;clear hz2 hcell1 hk5 hv5 HT)
    | (have hz2 : bits .and .u32 (z : Int) 1 = 1 := by rw [hz1, hb]; rfl
       have HT:Hid (R+R+1=2*R+a / 2 ^ p % 2):=aj (by rw[← HBIT.o,hb];omega);clear hz1 hb;go_upto_region 9 with(go_at_call 136;refine(mC (R+R) 1 _ _ _ (hv5.ext ((Ext.refl _).alloc _)) (Nv.one (ax.new _ _ _)) HF2.o HF1.o).mono ?_;rintro e w6 ⟨v6,rfl,e6,hv6,hk6⟩;obtain⟨qa,ql,qc,rfl⟩:=hv6.cH)
       have e56:=(e5.trans ((Ext.refl _).alloc _)).trans e6;refine ay (fun W=>Ow w W n xs/\Ext wr W/\Nv W (.slice qa ql qc) (2*R+a / 2 ^ p % 2)/\(∀ k,(Value.slice qa ql qc).ownBlock=some k->w.heap.size<k)) ⟨HCX.o _ e56,e56,by rw[← HT.o];exact hv6,fun k hk=>Nat.lt_of_lt_of_le hsz (Nat.le_trans ((e5.trans ((Ext.refl _).alloc (.cells #[.int .u32 1] 234))).size) (hk6 k hk))⟩ ?_;clear hz2 hcell1 hk5 hv5 HT hv6 hk6 e6 e56)
   all_goals
    rintro wT ⟨hoT,eT,hvT,hkT⟩;have hr2:2*R+a / 2 ^ p % 2<=a+2*b+2:=by have:=HRB.o;omega
    have HOT:=aj hoT;have HKT:=aj hkT;have HET:=aj eT;have HFT:=aj (HF.o.le hr2);clear hoT hkT eT hr2 e5;obtain⟨T,hT⟩:∃ T,2*R+a / 2 ^ p % 2=T:=⟨_,rfl⟩
    rw[hT] at hvT HFT;have HT:=aj hT;have HVT:=aj hvT;clear hT hvT;by_cases hge:b<=T
    ·have HGE:=aj hge;obtain⟨d,hd⟩:∃ d,d=xs[m]?.getD 0:=⟨_,rfl⟩
     have HY:=aj (HOV.o.yes PB.out HPM.o hq32 hmn hd (by rw[HT.o];exact hge));have HD:=aj hd;have hT2:¬ T<b:=ae;clear hd hge;go_upto_region 11 with(first
      | (go_at_call 137;refine(fQ T b _ _ _ HVT.o (HM.o.ext HOT.o.2.2)).mono ?_;rintro e w7 ⟨cc,rfl,e7,k1,k2⟩;have k3:0<=cc:=Int.not_lt.1 (fun h=>hT2 (k1.1 h));clear k1 k2)
      | (go_at_call 138;refine(mA T b _ _ _ (HVT.o.ext e7) ((HM.o.ext HOT.o.2.2).ext e7) HFT.o HGE.o).mono ?_;rintro e w8 ⟨v8,rfl,e8,hv8,hk8⟩;obtain⟨ua,ul,uc,rfl⟩:=hv8.cH))
     have HO8:=aj (HOT.o.ext (e7.trans e8));have hcell8:w8.cell? ⟨w.heap.size,m,none⟩=some (.int .u32 (d:Int)):=by rw[HD.o];exact HO8.o.cell m hmn
     have hfree8:=HO8.o.free m;obtain⟨pq,hpq⟩:∃ pq,2 ^ q=pq:=⟨_,rfl⟩
     have hsh:=Ab q pq hq32 hpq;have hor:=Ch d q HY.o.2.2 HY.o.2.1;have HOX:=aj (HO8.o.set m (d+2 ^ q) (z:=(d:Int)+((2 ^ q:Nat):Int)) (Int.natCast_add _ _).symm);have HYO:=aj HY.o.1;rw[HT.o] at HYO;have HPQ:=aj hpq;rw[hpq] at hor HOX HYO;have sw1:IntKind.i64.wrap (m:Int)=(m:Int):=IntWalk.i64_in _ ae;have nV:(p:Int).tmod 32=(q:Int):=by rw[Int.tmod_eq_emod_of_nonneg ae];exact eq
     have i1:(0:Int)<=(m:Int):=Int.natCast_nonneg m;have i2:(m:Int)<(n:Int):=ae;have i4:(m:Int).toNat=m:=Int.toNat_natCast m;clear hpq eq;go_region_law (fail)
     all_goals
      go_wp2;go_roundw
      case rel=>exact⟨p,T-b,_,_,_,_,rfl,rfl,ae,(hv8.other (a:=⟨w.heap.size,m,none⟩) _ (fun k hk=>Nat.ne_of_gt (Nat.lt_of_lt_of_le hsz (Nat.le_trans (HET.o.trans e7).size (hk8 k hk))))).ext ((Ext.refl _).drew),HYO.o,HOX.o.drew,(fun k hk=>Nat.ne_of_gt (Nat.lt_of_lt_of_le hsz (Nat.le_trans (HET.o.trans e7).size (hk8 k hk)))),(HOX.o.drew.2.1.lt _ rfl).2⟩
      case measure=>simp[intOf]
    ·have hT2:T<b:=ae;have HNO:=aj (HOV.o.no PB.out (by rw[HT.o];exact hT2));clear hge;go_wp2_with (go_at_call 137;refine(fQ T b _ _ _ HVT.o (HM.o.ext HOT.o.2.2)).mono ?_;rintro e w7 ⟨cc,rfl,e7,k1,k2⟩;have k3:¬ 0<=cc:=Int.not_le.2 (k1.2 hT2);clear k1 k2);go_roundw
     case rel=>exact⟨p,T,xs,_,_,_,rfl,rfl,ae,HVT.o.ext e7,by rw[← HT.o];exact HNO.o,HOT.o.ext e7,fun k hk=>Nat.ne_of_gt (HKT.o k hk),Nat.lt_of_lt_of_le hsz (HET.o.trans e7).size⟩
     case measure=>simp[intOf]
  ·obtain rfl:j=0:=ae;go_wp2_with (go_at_call 209;refine(gB HOW.o.2.1 HOW.o.2.2 HOV.o.lt HOV.o.done).mono ?_;rintro e w' ⟨v',rfl,hx',hm,hk⟩);go_ret;exact⟨v',rfl,hx',hm,hk⟩
def eG(w:World)(nb:Bool)(va vd:Value)(q:Rat):Prop:=nb=decide (q.num<0)/\Nv w va q.num.natAbs/\Nv w vd q.den
def ic(w:World)(v:Value)(q:Rat):Prop:=∃ nb na nk nc da dk dc,v = .agg #[.bool nb,.slice na nk nc,.slice da dk dc]/\eG w nb (.slice na nk nc) (.slice da dk dc) q
theorem eG.ext{w w':World}{nb:Bool}{va vd:Value}{q:Rat}(h:eG w nb va vd q)(e:Ext w w'):eG w' nb va vd q:=⟨h.1,h.2.1.ext e,h.2.2.ext e⟩
theorem ic.ext{w w':World}{v:Value}{q:Rat}(h:ic w v q)(e:Ext w w'):ic w' v q:=let ⟨nb,na,nk,nc,da,dk,dc,e1,h1⟩:=h;⟨nb,na,nk,nc,da,dk,dc,e1,h1.ext e⟩
def zI(w:World)(q:Rat)(e:Ending)(w':World):Prop:=∃ v,e = .returned v/\Ext w w'/\ic w' v q
theorem Nv.fM{w:World}{v:Value}{n b i:Nat}{C:Array Value}{t:TypeId}(h:Nv w v n)(hb:ax w b C t)(ht:234≠t)(u:Value):Nv (w.setCell ⟨b,i,none⟩ u) v n:=by
 obtain⟨l,⟨ad,cap,b',cs,h1,h2,h3,h4,h5⟩,c,d⟩:=h;refine⟨l,⟨ad,cap,b',cs,h1,h2,h3,fun h0=>⟨(h4 h0).1,(h4 h0).2.other u fun e=>?_⟩,h5⟩,c,d⟩;have e':b'=b:=e;have x:=(h4 h0).2.out;rw[e',hb.out] at x;simp at x;exact ht x.2.symm
theorem vY{nb:Bool}{d:Nat}:iD nb 0 d=0:=by
 unfold iD;cases nb <;> simp
theorem y4{w:World}{nb:Bool}{n d n' d':Nat}{va vd:Value}(hn:Nv w va n')(hd:Nv w vd d')(pn:n≠0)(pd:d≠0)(en:n'=n / Nat.gcd n d)(ed:d'=d / Nat.gcd n d):eG w nb va vd (iD nb n d):=by
 obtain⟨h1,h2,h3⟩:=sY nb n d pd (fun e=>absurd e pn);refine⟨?_,by rw[h2,← en];exact hn,by rw[h3,← ed];exact hd⟩;rw[h1];simp[pn]
theorem nJ{n d:Nat}(h:0<d):Nat.gcd n d<=d:=Nat.le_of_dvd h (Nat.gcd_dvd_right n d)
theorem pC(nb:Bool)(n d:Nat)(vn vd:Value)(w:World)(hn:Nv w vn n)(hd:Nv w vd d)(pd:0<d)(hf:Fit (3*(n+d)+2)):Calls prog 135 #[.bool nb,vn,vd] w (zI w (iD nb n d)):=by
 obtain⟨na,nk,nc,rfl⟩:=hn.cH;obtain⟨da,dk,dc,rfl⟩:=hd.cH;have HNN:=aj hn;have HD:=aj hd;have PD:=aj pd;have HF:=aj hf;by_cases h0:n=0
 ·have hk:=hn.qX.2 h0;subst hk;subst h0;clear hn hd pd hf;go_enter func135,ntmps135;go_wp2_with fail;refine ay (fun W=>Ext w W/\ax W w.heap.size #[.bool false,.slice none 0 0,.slice (some ⟨w.heap.size+1,0,none⟩) 1 1] 112/\ax W (w.heap.size+1) #[.int .u32 1] 234) ⟨((Ext.refl w).alloc _).alloc _,(ax.new _ _ _).alloc _,ax.vG (by rw[World.size_alloc])⟩ ?_;rintro W ⟨hx,hb,h1⟩;have g0:=hb.cell 0 rfl;have g1:=hb.cell 1 rfl;have g2:=hb.cell 2 rfl;refine bodyPost_ret (v:=.agg #[.bool false,.slice none 0 0,.slice (some ⟨w.heap.size+1,0,none⟩) 1 1]) (by simp[results,results135,go_sem,g0,g1,g2]) rfl ⟨_,rfl,hx,_,_,_,_,_,_,_,rfl,?_⟩;rw[vY];exact⟨rfl,Nv.nil af,Nv.one h1⟩
 ·have hk:0<nk:=ue hn ae;have hk0:¬ (nk:Int)=0:=ae;have PN:=aj h0;have HGL:=aj (nJ (n:=n) pd);have HGP:=aj (Nat.gcd_pos_of_pos_right n pd);have HF1:=aj (hf.le (by omega:n+d<=_));have HF2:=aj (hf.le (by have:=HGL.o;omega:n+2*Nat.gcd n d+2<=_));have HF3:=aj (hf.le (by have:=HGL.o;omega:d+2*Nat.gcd n d+2<=_));have H1G:=aj (show ¬ 1<Nat.gcd n d->Nat.gcd n d=1 by have:=HGP.o;omega);clear hn hd pd hf h0
  -- what is stored at the end
  have fin:∀ (W:World) (ua:Option Addr) (uk uc:Nat) (wa:Option Addr) (wk wc:Nat),Ext w W->ax W w.heap.size #[.bool false,.slice none 0 0,.slice none 0 0] 112->Nv W (.slice ua uk uc) (n / Nat.gcd n d)->Nv W (.slice wa wk wc) (d / Nat.gcd n d) ->
      ∃ W',W'=((W.setCell ⟨w.heap.size,0,none⟩ (.bool nb)).setCell ⟨w.heap.size,1,none⟩ (.slice ua uk uc)).setCell ⟨w.heap.size,2,none⟩ (.slice wa wk wc)/\Ext w W'/\ax W' w.heap.size #[.bool nb,.slice ua uk uc,.slice wa wk wc] 112/\ic W' (.agg #[.bool nb,.slice ua uk uc,.slice wa wk wc]) (iD nb n d):=by
   intro W ua uk uc wa wk wc hx hb h1 h2;have b1:=hb.set 0 (.bool nb);have b2:=b1.set 1 (.slice ua uk uc);refine⟨_,rfl,((hx.setCell (Nat.le_refl _) _).setCell (Nat.le_refl _) _).setCell (Nat.le_refl _) _,b2.set 2 _,_,_,_,_,_,_,_,rfl,y4 (((h1.fM hb af _).fM b1 af _).fM b2 af _) (((h2.fM hb af _).fM b1 af _).fM b2 af _) PN.out (Nat.ne_of_gt PD.out) rfl rfl⟩
  have FIN:=aj fin;clear fin;have E0:Hid (Ext w (w.alloc (.cells #[.bool false,.slice none 0 0,.slice none 0 0] 112))):=aj ((Ext.refl _).alloc _);by_cases hG:1<Nat.gcd n d
  all_goals
   go_enter func135,ntmps135;go_upto_region 6 with(first
    | (go_at_call 192;refine(sH n d _ _ _ (HNN.o.ext E0.out) (HD.o.ext E0.out) (Nat.pos_of_ne_zero PN.out) PD.out HF1.o).mono ?_;rintro e w3 ⟨vg,rfl,e3,hg⟩;obtain⟨ga,gk,gc,rfl⟩:=hg.cH;have HB3:=aj ((ax.new w #[.bool false,.slice none 0 0,.slice none 0 0] 112).ext e3);have HX3:=aj (E0.out.trans e3))
    | (go_at_call 137;refine(fQ (Nat.gcd n d) 1 _ _ _ (hg.ext ((Ext.refl _).alloc _)) (Nv.one (ax.new _ _ _))).mono ?_;rintro e w4 ⟨cc,rfl,e4,k1,k2⟩;first|(have k3:0<cc:=k2.2 hG;clear k1 k2)|(have k3:¬ 0<cc:=fun h=>hG (k2.1 h);clear k1 k2))
    | (go_at_call 210;((with_reducible refine(tU n (Nat.gcd n d) (.slice na nk nc) _ _ (HNN.o.ext (HX3.o.trans (((Ext.refl _).alloc _).trans e4))) (hg.ext (((Ext.refl _).alloc _).trans e4)) HGP.o HF2.o).mono ?_);rintro e w5 ⟨v5,rfl,e5,hv5,_⟩;obtain⟨ua,uk,uc,rfl⟩:=hv5.cH))
    | (go_at_call 210;refine(tU d (Nat.gcd n d) _ _ _ (HD.o.ext ((HX3.o.trans (((Ext.refl _).alloc _).trans e4)).trans e5)) ((hg.ext (((Ext.refl _).alloc _).trans e4)).ext e5) HGP.o HF3.o).mono ?_;rintro e w6 ⟨v6,rfl,e6,hv6,_⟩;obtain⟨wa,wk,wc,rfl⟩:=hv6.cH))
   first
    | (have HB6:=aj (((HB3.o.ext (((Ext.refl _).alloc _).trans e4)).ext e5).ext e6)
       obtain⟨W',eW,hx',hb',hf'⟩:=FIN.out w6 _ _ _ _ _ _ (((HX3.o.trans (((Ext.refl _).alloc _).trans e4)).trans e5).trans e6) HB6.o (hv5.ext e6) hv6)
    | (have HB6:=aj (HB3.o.ext (((Ext.refl _).alloc _).trans e4))
       have h1g:=H1G.o hG;obtain⟨W',eW,hx',hb',hf'⟩:=FIN.out w4 na nk nc da dk dc (HX3.o.trans (((Ext.refl _).alloc _).trans e4)) HB6.o (by rw[h1g,Nat.div_one];exact HNN.o.ext (HX3.o.trans (((Ext.refl _).alloc _).trans e4))) (by rw[h1g,Nat.div_one];exact HD.o.ext (HX3.o.trans (((Ext.refl _).alloc _).trans e4))))
   have c0:=HB6.o.cell 0 rfl;have c1:=HB6.o.cell 1 rfl;have c2:=HB6.o.cell 2 rfl;have f0:=HB6.o.free 0;have f1:=HB6.o.free 1;have f2:=HB6.o.free 2;go_wp2_with fail;rw[← eW];have g0:=hb'.cell 0 rfl;have g1:=hb'.cell 1 rfl;have g2:=hb'.cell 2 rfl;exact bodyPost_ret (v:=.agg #[_,_,_]) (by simp[results,results135,go_sem,g0,g1,g2]) rfl ⟨_,rfl,hx',hf'⟩
theorem jY{x j:Nat}(h:x<10 ^ j)(hj:j<=18000):Fit x:=⟨Nat.lt_of_lt_of_le h (by rw[show(1000000000:Nat)=10 ^ 9 from rfl,← Nat.pow_mul];exact Nat.pow_le_pow_right af (by show j<=9*2000;omega))⟩
theorem fY(nb:Bool)(n:Int)(h:nb=decide (n<0)):n=(if nb=true then -(n.natAbs:Int) else(n.natAbs:Int)):=by
 subst h;by_cases h:n<0
 ·rw[if_pos (decide_eq_true h)];omega
 ·rw[if_neg (by simp[h])];omega
section
variable {a b:Rat} {na nb:Bool} (ha:na=decide (a.num<0)) (hb:nb=decide (b.num<0))
include ha hb
theorem y5:iD (na != nb) (a.num.natAbs*b.num.natAbs) (a.den*b.den)=a*b:=by
 rw[Rat.mul_def',iD]
 congr 1
 conv=>rhs;rw[fY na _ ha,fY nb _ hb]
 cases na <;> cases nb <;> simp[Int.neg_mul,Int.mul_neg]
theorem vZ(h:na=nb):iD na (a.num.natAbs*b.den+b.num.natAbs*a.den) (a.den*b.den)=a+b:=by
 rw[Rat.add_def',iD]
 congr 1
 conv=>rhs;rw[fY na _ ha,fY nb _ hb]
 subst h;cases na <;> simp[Int.neg_add,Int.neg_mul]
theorem we(h:na≠nb)(hl:b.num.natAbs*a.den<=a.num.natAbs*b.den):iD na (a.num.natAbs*b.den-b.num.natAbs*a.den) (a.den*b.den)=a+b:=by
 rw[Rat.add_def',iD]
 congr 1
 conv=>rhs;rw[fY na _ ha,fY nb _ hb]
 have e:((a.num.natAbs*b.den-b.num.natAbs*a.den:Nat):Int)=(a.num.natAbs:Int)*(b.den:Int)-(b.num.natAbs:Int)*(a.den:Int):=by rw[Int.natCast_sub hl,Int.natCast_mul,Int.natCast_mul]
 rw[e];cases na <;> cases nb <;> simp[Int.neg_mul] at h ⊢ <;> omega
theorem sX(h:na≠nb)(hl:a.num.natAbs*b.den<=b.num.natAbs*a.den):iD nb (b.num.natAbs*a.den-a.num.natAbs*b.den) (a.den*b.den)=a+b:=by
 rw[Rat.add_def',iD]
 congr 1
 conv=>rhs;rw[fY na _ ha,fY nb _ hb]
 have e:((b.num.natAbs*a.den-a.num.natAbs*b.den:Nat):Int)=(b.num.natAbs:Int)*(a.den:Int)-(a.num.natAbs:Int)*(b.den:Int):=by rw[Int.natCast_sub hl,Int.natCast_mul,Int.natCast_mul]
 rw[e];cases na <;> cases nb <;> simp[Int.neg_mul] at h ⊢ <;> omega
end
structure j6(a b:Rat):Prop where
 an:Fit a.num.natAbs
 bn:Fit b.num.natAbs
 ad:Fit a.den
 bd:Fit b.den
 nn:Fit (a.num.natAbs*b.num.natAbs)
 dd:Fit (a.den*b.den)
 x:Fit (a.num.natAbs*b.den)
 y:Fit (b.num.natAbs*a.den)
 m:Fit (3*(a.num.natAbs*b.num.natAbs+a.den*b.den)+2)
 s:Fit (3*(a.num.natAbs*b.den+b.num.natAbs*a.den+a.den*b.den)+2)
theorem jR{x y k m:Nat}(hx:x<10 ^ k)(hy:y<10 ^ m):x*y<10 ^ (k+m):=mG hx hy
theorem QB.ju{a b:Rat}{k m:Nat}(ha:QB k a)(hb:QB m b)(h:k+m<=17000):j6 a b:=by
 have hn:=jR ha.1 hb.1;have hd:=jR ha.2 hb.2;have hx:=jR ha.1 hb.2;have hy:=jR hb.1 ha.2;rw[Nat.add_comm m k] at hy;have h2:∀ z:Nat,z<=9*10 ^ (k+m)+2->Fit z:=fun z hz=>jY (j:=k+m+2) (by
  have:0<10 ^ (k+m):=Nat.pow_pos af;rw[Nat.pow_succ,Nat.pow_succ];omega) ae
 have h1:∀ z j:Nat,z<10 ^ j->j<=k+m->Fit z:=fun z j hz hj=>jY hz ae
 exact⟨h1 _ _ ha.1 ae,h1 _ _ hb.1 ae,h1 _ _ ha.2 ae,h1 _ _ hb.2 ae,h1 _ _ hn ae,h1 _ _ hd ae,h1 _ _ hx ae,h1 _ _ hy ae,h2 _ ae,h2 _ ae⟩
theorem j6.neg{a b:Rat}(h:j6 a b):j6 a (-b):=by
 have e1:(-b).num.natAbs=b.num.natAbs:=by rw[Rat.neg_num,Int.natAbs_neg]
 have e2:(-b).den=b.den:=Rat.neg_den b;obtain⟨h1,h2,h3,h4,h5,h6,h7,h8,h9,h10⟩:=h;constructor <;> (try simp only[e1,e2]) <;> assumption
section
variable {w W:World} {b:Nat} {x y z x' y' z':Value} {t:TypeId} {n:Nat} {v:Value}
def de(w:World)(b:Nat)(x y z:Value):World:=((w.setCell ⟨b,0,none⟩ x).setCell ⟨b,1,none⟩ y).setCell ⟨b,2,none⟩ z
theorem ax.de(h:ax w b #[x,y,z] t):ax (de w b x' y' z') b #[x',y',z'] t:=((h.set 0 x').set 1 y').set 2 z'
theorem Nv.de(h:Nv w v n)(hb:ax w b #[x,y,z] t)(ht:234≠t):Nv (Go.Proofs.YtmahadmefplbnaaGreatDoor.de w b x' y' z') v n:=((h.fM hb ht _).fM (hb.set 0 x') ht _).fM ((hb.set 0 x').set 1 y') ht _
theorem eG.de{nb:Bool}{va vd:Value}{q:Rat}(h:eG w nb va vd q)(hb:ax w b #[x,y,z] t)(ht:234≠t):eG (Go.Proofs.YtmahadmefplbnaaGreatDoor.de w b x' y' z') nb va vd q:=⟨h.1,h.2.1.de hb ht,h.2.2.de hb ht⟩
theorem Ext.de(h:Ext w W)(hb:w.heap.size<=b):Ext w (Go.Proofs.YtmahadmefplbnaaGreatDoor.de W b x y z):=((h.setCell hb _).setCell hb _).setCell hb _
theorem Mv.de{X w0:World}{S:Nat->Prop}(h:Mv X w0 S W)(hb:S b):Mv X w0 S (Go.Proofs.YtmahadmefplbnaaGreatDoor.de W b x y z):=((h.setCell (Or.inl hb) _).setCell (Or.inl hb) _).setCell (Or.inl hb) _
end
def zJ(w:World)(b:Nat)(q:Rat):Prop:=∃ nb na nk nc da dk dc,ax w b #[.bool nb,.slice na nk nc,.slice da dk dc] 112/\eG w nb (.slice na nk nc) (.slice da dk dc) q
theorem zJ.ext{w w':World}{b:Nat}{q:Rat}(h:zJ w b q)(e:Ext w w'):zJ w' b q:=let ⟨nb,na,nk,nc,da,dk,dc,h1,h2⟩:=h;⟨nb,na,nk,nc,da,dk,dc,h1.ext e,h2.ext e⟩
theorem oe(q:Rat)(nb:Bool)(h:nb=decide (q.num<0)):(nb=true/\q.num.sign=-1)∨(nb=false/\q.num.natAbs=0/\q.num.sign=0)∨(nb=false/\0<q.num.natAbs/\q.num.sign=1):=by
 subst h;rcases Int.lt_trichotomy q.num 0 with h|h|h
 ·exact Or.inl ⟨decide_eq_true h,Int.sign_eq_neg_one_of_neg h⟩
 ·exact Or.inr (Or.inl ⟨decide_eq_false ae,ae,by rw[h];rfl⟩)
 ·exact Or.inr (Or.inr ⟨decide_eq_false ae,ae,Int.sign_eq_one_of_pos h⟩)
theorem lu(q:Rat)(v:Value)(w:World)(h:ic w v q):Calls prog 56 #[v] w (aR w (.int .i64 q.num.sign)):=by
 obtain⟨nb,na,nk,nc,da,dk,dc,rfl,hs,hn,hd⟩:=h;have hl:=hn.qX;have c0:=(ax.new w #[.bool nb,.slice na nk nc,.slice da dk dc] 112).cell 0 rfl;have c1:=(ax.new w #[.bool nb,.slice na nk nc,.slice da dk dc] 112).cell 1 rfl;rcases oe q nb hs with⟨rfl,e⟩|⟨rfl,h0,e⟩|⟨rfl,h0,e⟩
 ·rw[e];clear hs hn hd hl e;go_enter func56,ntmps56;go_wp2;go_ret;exact⟨rfl,(Ext.refl _).alloc _⟩
 ·rw[e];have hk:=hl.2 h0;subst hk;clear hs hn hd hl e h0;go_enter func56,ntmps56;go_wp2;go_ret;exact⟨rfl,(Ext.refl _).alloc _⟩
 ·rw[e];have hk:¬ nk=0:=fun e=>by have:=hl.1 e;omega
  have hk0:¬ (nk:Int)=0:=ae;clear hs hn hd hl e h0;go_enter func56,ntmps56;go_wp2;go_ret;exact⟨rfl,(Ext.refl _).alloc _⟩
end Go.Proofs.YtmahadmefplbnaaGreatDoor
