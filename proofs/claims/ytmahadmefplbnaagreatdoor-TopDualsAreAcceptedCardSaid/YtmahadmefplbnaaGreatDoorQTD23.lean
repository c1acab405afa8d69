/- Part 23. -/
import Derived.Test.YtmahadmefplbnaaGreatDoorQTDB
import Derived.Test.YtmahadmefplbnaaGreatDoorQTD22
set_option maxRecDepth 100000
set_option maxHeartbeats 2000000
open Go.Proofs.Tryz
namespace Go.Proofs.YtmahadmefplbnaaGreatDoor
open Go Go.RowKit
def iA:List Int->Int
 | []=>0
 | x :: t=>x+10000*iA t
theorem sQ(l m:List Int):iA (l ++ m)=iA l+10000 ^ l.length*iA m:=by
 induction l with
 | nil=>simp[iA]
 | cons x t ih =>
  simp only[List.cons_append,iA,ih,List.length_cons];rw[Int.pow_succ,Int.mul_add,← Int.mul_assoc,Int.mul_comm 10000 (10000 ^ t.length),Int.add_assoc]
theorem q5(l:List Int)(x:Int):iA (l ++ [x])=iA l+10000 ^ l.length*x:=by
 rw[sQ];simp[iA]
theorem AZ(l:List Nat):iA (l.map Int.ofNat)=(mv 10000 l:Int):=by
 induction l with
 | nil=>rfl
 | cons x t ih=>simp only[List.map_cons,iA,ih,mv];simp
theorem nI(l:List Int)(i:Nat)(h:i<l.length):iA (l.take (i+1))=iA (l.take i)+10000 ^ i*l[i]:=by
 rw[List.take_succ_eq_append_getElem h,q5,List.length_take,Nat.min_eq_left (Nat.le_of_lt h)]
def gv(w:World)(v:Value)(l:List Int):Prop :=
 ∃ (ad:Option Addr) (cap b off:Nat),v = .slice ad l.length cap/\l.length<=cap/\cap<=9223372036854775807/\(0<l.length->ad=some ⟨b,off,none⟩/\b<w.heap.size) /\
  ∀ i,i<l.length->w.cell? ⟨b,off+i,none⟩=some (.int .i64 (l.getD i 0))
theorem gv.ext{w w':World}{v:Value}{l:List Int}(h:gv w v l)(e:Ext w w'):gv w' v l:=by
 obtain⟨ad,cap,b,off,hv,h1,h2,h3,h4⟩:=h;refine⟨ad,cap,b,off,hv,h1,h2,fun h0=>⟨(h3 h0).1,Nat.lt_of_lt_of_le (h3 h0).2 e.size⟩,fun i hi=>(e.cell (h3 ae).2).trans (h4 i hi)⟩
theorem gv.bX{w:World}{base e n:Nat}{v:Value}{l:List Int}(h:w.ownsRow base e 1 v n (l.map (Value.int .i64))):gv w v l:=by
 have hlen:l.length=n:=by have:=h.1;simpa using this
 rcases h.2 with⟨rfl,h0⟩|⟨g,cap,cur,rfl,hg,hh,h1,h2,h3,h4⟩
 ·obtain rfl:l=[]:=List.length_eq_zero_iff.1 ae;exact⟨none,0,0,0,rfl,by simp,ae,fun h=>by simp at h,fun i h=>by simp at h⟩
 ·refine⟨some ⟨g,0,none⟩,cap,g,0,by rw[hlen],ae,h2,fun _=>⟨rfl,(Array.getElem?_eq_some_iff.1 hh).1⟩,fun i hi=>?_⟩;have:=h.cellAt i ae;rw[Nat.zero_add,this];simp[hi]
theorem ia{l:List Int}{k:Nat}(h:k<l.length):l.getD k 0=l[k]:=by simp[h]
theorem qM(n:Nat):(0:Int)<10000 ^ n:=Int.pow_pos af
structure gx(xs:List Int)(k:Nat)(ov:Int)(P:List Nat):Prop where
 len:P.length=k
 lt:aC 10000 P
 val:(mv 10000 P:Int)+10000 ^ k*ov=iA (xs.take k)
theorem vP{P:List Nat}(h:aC 10000 P):(mv 10000 P:Int)<10000 ^ P.length:=by
 have:=iw h;have e:((10000 ^ P.length:Nat):Int)=(10000:Int) ^ P.length:=by rw[Int.natCast_pow];rfl
 rw[← e];omega
theorem gx.Cm{xs:List Int}{k:Nat}{ov:Int}{P:List Nat}(h:gx xs k ov P)(hk:xs.length<=k)(h0:0<=iA xs):0<=ov:=by
 have hv:=h.val;rw[List.take_of_length_le hk] at hv;have hl:=vP h.lt;rw[h.len] at hl;rcases Int.lt_or_le ov 0 with hn|hn
 ·exfalso;have:(10000:Int) ^ k*ov<=10000 ^ k*(-1):=Int.mul_le_mul_of_nonneg_left ae (Int.le_of_lt (qM k));rw[Int.mul_neg,Int.mul_one] at this;omega
 ·exact hn
theorem gx.room{xs:List Int}{k:Nat}{ov:Int}{P:List Nat}(h:gx xs k ov P)(hk:xs.length<=k)(hov:0<ov)(f:gu (iA xs).toNat)(h0:0<=iA xs):k<wg:=by
 have hv:=h.val;rw[List.take_of_length_le hk] at hv;have h1:(10000:Int) ^ k*1<=10000 ^ k*ov:=Int.mul_le_mul_of_nonneg_left ae (Int.le_of_lt (qM k));have h2:((10000 ^ k:Nat):Int)<=iA xs:=by
  rw[Int.natCast_pow,← hv];rw[Int.mul_one] at h1;have:((10000:Nat):Int)=10000:=rfl;rw[this];omega
 have h3:10000 ^ k<10000 ^ wg:=by have:=f.out;omega
 exact(Nat.pow_lt_pow_iff_right af).1 h3
theorem lS(t:Int):((t.tmod 10000<0/\t.tmod 10000+10000=t % 10000/\(t-(t.tmod 10000+10000)).tdiv 10000=t / 10000)∨(0<=t.tmod 10000/\t.tmod 10000=t % 10000/\(t-t.tmod 10000).tdiv 10000=t / 10000))/\-9999<=t.tmod 10000/\t.tmod 10000<=9999:=by
 have h1:=Int.tmod_lt_of_pos t (show(0:Int)<10000 by decide);have h2:=Int.lt_tmod_of_pos t (show(0:Int)<10000 by decide);have h3:=Int.mul_tdiv_add_tmod t 10000;have hd:=Int.mul_ediv_add_emod t 10000;have he:=Int.emod_nonneg t (show(10000:Int)≠0 by decide);have he2:=Int.emod_lt_of_pos t (show(0:Int)<10000 by decide);refine⟨?_,ae,ae⟩;rcases Int.lt_or_le (t.tmod 10000) 0 with h|h
 ·refine Or.inl ⟨h,ae,?_⟩;have:t-(t.tmod 10000+10000)=(t / 10000)*10000:=ae;rw[this,Int.mul_tdiv_cancel _ af]
 ·refine Or.inr ⟨h,ae,?_⟩;have:t-t.tmod 10000=(t / 10000)*10000:=ae;rw[this,Int.mul_tdiv_cancel _ af]
theorem gx.step{xs:List Int}{k:Nat}{ov t:Int}{P:List Nat}(h:gx xs k ov P)(ht:10000 ^ k*t=10000 ^ k*ov+(iA (xs.take (k+1))-iA (xs.take k))):gx xs (k+1) (t / 10000) (P ++ [(t % 10000).toNat]):=by
 have he:=Int.emod_nonneg t (show(10000:Int)≠0 by decide);have he2:=Int.emod_lt_of_pos t (show(0:Int)<10000 by decide);have hd:=Int.mul_ediv_add_emod t 10000;refine⟨by simp[h.len],?_,?_⟩
 ·intro x hx;rcases List.mem_append.1 hx with hx|hx
  ·exact h.lt x hx
  ·simp only[List.mem_singleton] at hx;omega
 ·rw[eJ,h.len];have e:((mv 10000 P+10000 ^ k*(t % 10000).toNat:Nat):Int)=(mv 10000 P:Int)+10000 ^ k*(t % 10000):=by
   rw[Int.natCast_add,Int.natCast_mul,Int.natCast_pow,Int.toNat_of_nonneg he];rfl
  rw[e,Int.pow_succ,Int.mul_assoc,Int.add_assoc,← Int.mul_add,Int.add_comm (t % 10000),hd,ht];have:=h.val;omega
set_option maxHeartbeats 4000000 in
theorem uF (xs:List Int) (v:Value) (w:World) (h:gv w v xs) (hb:∀ x ∈ xs,-1000000000000000<=x/\x<=1000000000000000) (hl:xs.length<=20000) (h0:0<=iA xs) (f:gu (iA xs).toNat) :
    Calls prog 224 #[v] w (zD w (iA xs).toNat):=by
 obtain⟨i0,hi,hz0,hz1,hz2⟩:=info_parts lz;obtain⟨n,hn⟩:∃ n,n=xs.length:=⟨_,rfl⟩
 obtain⟨ad,cap,b,off,rfl,h1,hc,hbk,hC⟩:=h;rw[← hn] at h1 hbk hC hl ⊢;have HN:=aj hn;have HB:=aj hb;have H1:=aj hbk;have H2:=aj hC;have H0:=aj h0;have HF:=aj f;clear hn hb hbk hC h0 f;go_enter func224,ntmps224;go_wp2
 go_loopw [3, 4, 5] (fun out over i W => ∃ (k : Nat) (ov : Int) (P : List Nat), i = .int .i64 k /\ over = .int .i64 ov /\ -2000000000000 <= ov /\ ov <= 2000000000000 /\ k <= 30000 /\ Hid (gx xs k ov P) /\
     W.ownsRow w.heap.size 3 1 out k (P.map fun(x:Nat)=>Value.int .i64 x)/\Ext w W)
  (fun _ over i _=>(n-(intOf i).toNat)*10000000000000000+(intOf over).natAbs)
 case atStart=>exact⟨0,0,[],rfl,rfl,ae,ae,ae,aj ⟨rfl,fun x hx=>by simp at hx,by simp[mv,iA]⟩,⟨rfl,Or.inl ⟨rfl,rfl⟩⟩,Ext.refl _⟩
 case round =>
  obtain⟨k,ov,P,rfl,rfl,hv1,hv2,hk3,hinv,hown,hx⟩:=hrel;obtain⟨oa,on,oc,rfl⟩:=mu hown;have HO:=aj hown;clear hown;by_cases hk:k<n
  ·obtain⟨x,hxx⟩:∃ x,x=xs.getD k 0:=⟨_,rfl⟩
   have hx1:-1000000000000000<=x/\x<=1000000000000000:=by
    rw[hxx,ia (by rw[← HN.o];exact hk)];exact HB.o _ (List.getElem_mem _)
   obtain⟨hx1,hx2⟩:=hx1;have hcell:wr.cell? ⟨b,off+k,none⟩=some (.int .i64 x):=by rw[hxx];exact(hx.cell (p:=⟨b,off+k,none⟩) (H1.o ae).2).trans (H2.o k hk)
   have hix:=aQ 85 3 underlying85 k5 (cap:=cap) (fun h=>(H1.o h).1) k hk;obtain⟨hcs,ht1,ht2⟩:=lS (ov+x);obtain⟨t,ht⟩:∃ t,t=ov+x:=⟨_,rfl⟩
   have hkk:k<xs.length:=by rw[← HN.o];exact hk
   have HST:=aj (hinv.out.step (t:=t) (by
    rw[nI xs k hkk,ht,Int.mul_add,hxx,ia hkk];omega))
   have HT:=aj ht;rw[← ht] at hcs ht1 ht2;have tb1:-1002000000000000<=t:=ae;have tb2:t<=1002000000000000:=ae;have hq:=Int.mul_ediv_add_emod t 10000;have he:=Int.emod_nonneg t (show(10000:Int)≠0 by decide);have he2:=Int.emod_lt_of_pos t (show(0:Int)<10000 by decide);have Q1:Hid (-100200000001<=t / 10000/\t / 10000<=100200000000):=aj ae;have E0:=aj (And.intro he he2);have htt:ov+x=t:=ht.symm;clear hxx ht hq he he2 hkk HT;obtain⟨q,hqq⟩:∃ q,q=t / 10000:=⟨_,rfl⟩
   obtain⟨D,hDD⟩:∃ D:Nat,(D:Int)=t % 10000:=⟨(t % 10000).toNat,Int.toNat_of_nonneg E0.out.1⟩
   have hD1:(D:Int)<=9999:=by have:=E0.out.2;omega
   have hq1:-100200000001<=q:=by rw[hqq];exact Q1.out.1
   have hq2:q<=100200000000:=by rw[hqq];exact Q1.out.2
   have HQ:=aj hqq;have HDD:=aj hDD;have HS2:Hid (gx xs (k+1) q (P ++ [D])):=aj (by have:=HST.o;rw[← hDD,Int.toNat_natCast,← hqq] at this;exact this);rw[← hqq,← hDD] at hcs;clear hqq hDD;rcases hcs with⟨c1,c2,c3⟩|⟨c1,c2,c3⟩
   ·obtain⟨n0,hn0⟩:∃ n0,t.tmod 10000=n0:=⟨_,rfl⟩
    rw[hn0] at c1 c2 ht1 ht2;rw[hn0,c2] at c3;go_wp2_with (at_builtin;refine wpList_append_own (wr.alloc (.cells #[.int .i64 (D:Int)] 3)) rfl _ _ 85 rfl w.heap.size 3 i0 (.int .i64 0) 1 8 underlying85 hi hz0 hz1 hz2 rfl af _ k _ rfl (HO.o.alloc _) ⟨wr.heap.size,0,none⟩ 1 1 [.int .i64 (D:Int)] rfl rfl (jo wr D _) (by intro u hu;simp at hu;subst hu;rfl) (by unfold maxLen;omega) ae (by have:=hx.size;simp;omega) ?_;intro v' w1 hown1 hgrow1 hv1);go_roundw
    case rel=>exact⟨k+1,q,P ++ [D],by go_num,rfl,ae,ae,ae,HS2,by rw[List.map_append];exact hown1,(hx.alloc _).grown hgrow1 (fun g hg=>df HO.o g hg)⟩
    case measure=>simp[intOf];omega
   ·rw[c2] at c1 ht1 ht2;rw[c2] at c3;go_wp2_with (at_builtin;refine wpList_append_own (wr.alloc (.cells #[.int .i64 (D:Int)] 3)) rfl _ _ 85 rfl w.heap.size 3 i0 (.int .i64 0) 1 8 underlying85 hi hz0 hz1 hz2 rfl af _ k _ rfl (HO.o.alloc _) ⟨wr.heap.size,0,none⟩ 1 1 [.int .i64 (D:Int)] rfl rfl (jo wr D _) (by intro u hu;simp at hu;subst hu;rfl) (by unfold maxLen;omega) ae (by have:=hx.size;simp;omega) ?_;intro v' w1 hown1 hgrow1 hv1);go_roundw
    case rel=>exact⟨k+1,q,P ++ [D],by go_num,rfl,ae,ae,ae,HS2,by rw[List.map_append];exact hown1,(hx.alloc _).grown hgrow1 (fun g hg=>df HO.o g hg)⟩
    case measure=>simp[intOf];omega
  ·have hnk:xs.length<=k:=by rw[← HN.o];omega
   have hov:=hinv.out.Cm hnk H0.o;by_cases hz:ov=0
   ·subst hz;have hval:=hinv.out.val;rw[Int.mul_zero,Int.add_zero,List.take_of_length_le hnk] at hval;have HV:Hid (mv 10000 P=(iA xs).toNat):=aj ae;have hlen:=hinv.out.len;subst hlen;have HH:=aj (Holds.bX HO.o);clear hval hnk hov;go_wp2_with (go_at_call 222;refine(oI P _ _ HH.o hinv.out.lt).mono ?_;rintro e w' ⟨v',rfl,rfl,hm,_⟩);go_ret;exact⟨_,rfl,hx,by rw[HV.o] at hm;exact hm⟩
   ·obtain⟨hcs,ht1,ht2⟩:=lS ov;obtain⟨t,ht⟩:∃ t,t=ov:=⟨_,rfl⟩
    subst ht;have hk5:k<wg:=hinv.out.room hnk ae HF.o H0.o;have hk6:k<5000:=hk5;have HST:=aj (hinv.out.step (t:=t) (by
     rw[List.take_of_length_le hnk,List.take_of_length_le ae];omega))
    have tb1:1<=t:=ae;have tb2:t<=2000000000000:=ae;have hq:=Int.mul_ediv_add_emod t 10000;have he:=Int.emod_nonneg t (show(10000:Int)≠0 by decide);have he2:=Int.emod_lt_of_pos t (show(0:Int)<10000 by decide);have Q1:Hid (-100200000001<=t / 10000/\t / 10000<=100200000000):=aj ae;have Q2:Hid ((t / 10000).natAbs<t.natAbs):=aj ae;have E0:=aj (And.intro he he2);clear hq he he2 hnk hov hk5;obtain⟨q,hqq⟩:∃ q,q=t / 10000:=⟨_,rfl⟩
    obtain⟨D,hDD⟩:∃ D:Nat,(D:Int)=t % 10000:=⟨(t % 10000).toNat,Int.toNat_of_nonneg E0.out.1⟩
    have hD1:(D:Int)<=9999:=by have:=E0.out.2;omega
    have hq1:-100200000001<=q:=by rw[hqq];exact Q1.out.1
    have hq2:q<=100200000000:=by rw[hqq];exact Q1.out.2
    have HQ:=aj hqq;have HDD:=aj hDD;have HS2:Hid (gx xs (k+1) q (P ++ [D])):=aj (by have:=HST.o;rw[← hDD,Int.toNat_natCast,← hqq] at this;exact this);rw[← hqq,← hDD] at hcs;clear hqq hDD;rcases hcs with⟨c1,c2,c3⟩|⟨c1,c2,c3⟩
    ·obtain⟨n0,hn0⟩:∃ n0,t.tmod 10000=n0:=⟨_,rfl⟩
     rw[hn0] at c1 c2 ht1 ht2;rw[hn0,c2] at c3;go_wp2_with (at_builtin;refine wpList_append_own (wr.alloc (.cells #[.int .i64 (D:Int)] 3)) rfl _ _ 85 rfl w.heap.size 3 i0 (.int .i64 0) 1 8 underlying85 hi hz0 hz1 hz2 rfl af _ k _ rfl (HO.o.alloc _) ⟨wr.heap.size,0,none⟩ 1 1 [.int .i64 (D:Int)] rfl rfl (jo wr D _) (by intro u hu;simp at hu;subst hu;rfl) (by unfold maxLen;omega) ae (by have:=hx.size;simp;omega) ?_;intro v' w1 hown1 hgrow1 hv1);go_roundw
     case rel=>exact⟨k+1,q,P ++ [D],by go_num,rfl,ae,ae,ae,HS2,by rw[List.map_append];exact hown1,(hx.alloc _).grown hgrow1 (fun g hg=>df HO.o g hg)⟩
     case measure=>simp[intOf];have:=Q2.out;rw[← HQ.o] at this;omega
    ·rw[c2] at c1 ht1 ht2;rw[c2] at c3;go_wp2_with (at_builtin;refine wpList_append_own (wr.alloc (.cells #[.int .i64 (D:Int)] 3)) rfl _ _ 85 rfl w.heap.size 3 i0 (.int .i64 0) 1 8 underlying85 hi hz0 hz1 hz2 rfl af _ k _ rfl (HO.o.alloc _) ⟨wr.heap.size,0,none⟩ 1 1 [.int .i64 (D:Int)] rfl rfl (jo wr D _) (by intro u hu;simp at hu;subst hu;rfl) (by unfold maxLen;omega) ae (by have:=hx.size;simp;omega) ?_;intro v' w1 hown1 hgrow1 hv1);go_roundw
     case rel=>exact⟨k+1,q,P ++ [D],by go_num,rfl,ae,ae,ae,HS2,by rw[List.map_append];exact hown1,(hx.alloc _).grown hgrow1 (fun g hg=>df HO.o g hg)⟩
     case measure=>simp[intOf];have:=Q2.out;rw[← HQ.o] at this;omega
end Go.Proofs.YtmahadmefplbnaaGreatDoor
