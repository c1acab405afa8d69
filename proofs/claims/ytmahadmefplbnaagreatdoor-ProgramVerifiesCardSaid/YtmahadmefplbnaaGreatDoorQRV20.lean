/- Part 20. -/
import Derived.Test.YtmahadmefplbnaaGreatDoorQRV19
set_option maxRecDepth 100000
set_option maxHeartbeats 2000000
theorem Go.Proofs.YtmahadmefplbnaaGreatDoor.Hi20 {p:Prop} (h:p):Go.RowKit.Hid p:=h
namespace Go.Proofs.YtmahadmefplbnaaGreatDoor
open Go Go.RowKit
theorem sval_split (s:ByteArray) (lo e:Nat) (h:lo<=e) (he:e<=s.size):sval s 0 e=sval s 0 lo*10 ^ (e-lo)+sval s lo e:=by
 unfold sval;simp only [List.drop_zero,Nat.sub_zero];have hl:s.data.toList.length=s.size:=(size_list s).symm;have e1:s.data.toList.take e=s.data.toList.take lo ++ (s.data.toList.drop lo).take (e-lo):=by
  rw [← List.take_append_drop lo (s.data.toList.take e),List.take_take,Nat.min_eq_left h,List.drop_take]
 rw [e1,val_append];simp only [List.length_take,List.length_drop,hl];rw [Nat.min_eq_left (by omega)]
structure TakeInv (s:ByteArray) (V e:Nat) (P:List Nat):Prop where
 le:e<=s.size
 len:0<e->4*P.length+e=s.size
 room:4*P.length<=s.size+3
 lt:Below' 10000 P
 val:mv 10000 P+10000 ^ P.length*sval s 0 e=V
theorem TakeInv.step {s:ByteArray} {V e lo:Nat} {P:List Nat} (h:TakeInv s V e P) (h0:0<e) (hlo:lo=e-4) (hd:DgAt s 0 s.size):TakeInv s V lo (P ++ [sval s lo e]):=by
 have hl:=h.len h0;have hle:=h.le;refine ⟨by omega,?_,?_,?_,?_⟩
 ·intro h1;simp;omega
 ·simp;omega
 ·intro x hx;rcases List.mem_append.1 hx with hx|hx
  ·exact h.lt x hx
  ·simp only [List.mem_singleton] at hx;subst hx;have h1:=sval_lt s lo s.size e (fun i a b=>hd i (Nat.zero_le _) b) (by omega) h.le;have h2:10 ^ (e-lo)<=10 ^ 4:=Nat.pow_le_pow_right (by decide) (by omega);exact Nat.lt_of_lt_of_le h1 h2
 ·rw [mv_snoc,← h.val,sval_split s lo e (by omega) h.le];by_cases h4:4<=e
  ·rw [show e-lo=4 by omega,show (10:Nat) ^ 4=10000 by decide,List.length_append,List.length_singleton,Nat.pow_succ];generalize 10000 ^ P.length=p;generalize sval s 0 lo=x;generalize sval s lo e=y;rw [Nat.mul_add,Nat.mul_assoc p,Nat.mul_comm x];omega
  ·obtain rfl:lo=0:=by omega
   rw [sval_start];simp
def RPost (w:World) (n:Nat) (e:Ending) (w':World):Prop:=∃ v,e = .returned v/\Ext w w'/\RMag w' v n
theorem one_at (w:World) (c:Int) (T:TypeId):∀ j u,[Value.int .i64 c][j]?=some u->(w.alloc (.cells #[.int .i64 c] T)).cell? ((⟨w.heap.size,0,none⟩:Addr).add j)=some u:=by
 intro j u hu
 match j,hu with
 | 0,hu=>simp at hu;subst hu;rw [Addr.add_lit];exact (Blk.new w #[.int .i64 c] T).cell 0 rfl
theorem owns_slice {w:World} {B e n:Nat} {v:Value} {xs:List Value} (h:w.ownsRow B e 1 v n xs):∃ ad m c,v = .slice ad m c:=by
 rcases h.2 with ⟨rfl,_⟩|⟨g,cap,cur,rfl,_⟩
 ·exact ⟨_,_,_,rfl⟩
 ·exact ⟨_,_,_,rfl⟩
theorem take_c (N:Nat) (w:World) (hN:(Lib.decDigits N).length<=20000) :
    Calls Tryz.prog 153 #[.string (zs (N:Int))] w (RPost w N):=by
 obtain ⟨i0,hi,hz0,hz1,hz2⟩:=info_parts Tryz.infoInt;obtain ⟨s,hs⟩:∃ s,s=zs (N:Int):=⟨_,rfl⟩
 rw [← hs];have hsl:s.data.toList=[] ++ Lib.decDigits N ++ []:=by rw [hs,zs_list,zl_nat];simp
 have hd:=dgAt_mid hsl (dec_digs _);have hsv:=sval_mid hsl;have hsz:s.size=(Lib.decDigits N).length:=by rw [hs,zs_nat_size]
 simp only [List.length_nil,Nat.zero_add] at hd hsv;rw [← hsz] at hd hsv;rw [dec_val] at hsv;have hs2:s.size<=20000:=by omega
 have HD:=Hi20 hd;have HI0:Hid (TakeInv s N s.size []):=Hi20 ⟨Nat.le_refl _,fun _=>by simp,by simp,fun x hx=>by simp at hx,by rw [hsv];simp [mv]⟩;clear hs hsl hd hsv hsz hN;go_enter Tryz.func153,Tryz.ntmps153;go_wp2;go_loopw [3,4] (fun out z W=>∃ (Z:Int) (P:List Nat),z = .int .i64 Z/\-4<=Z/\Z<=20000/\Hid (TakeInv s N Z.toNat P)/\W.ownsRow w.heap.size 3 1 out P.length (P.map fun (x:Nat)=>Value.int .i64 x)/\Ext w W)
  (fun _ z _=>(intOf z).toNat)
 case atStart=>exact ⟨s.size,[],rfl,by omega,by omega,Hi20 (by simpa using HI0.out),⟨rfl,Or.inl ⟨rfl,rfl⟩⟩,Ext.refl _⟩
 case round =>
  obtain ⟨Z,P,rfl,hZ1,hZ2,hinv,hown,hx⟩:=hrel;obtain ⟨oa,on,oc,rfl⟩:=owns_slice hown;by_cases hZ:0<Z
  ·obtain ⟨e,rfl⟩:∃ e:Nat,Z=e:=⟨Z.toNat,by omega⟩
   have he:0<e:=by omega
   have hle:e<=s.size:=by have:=hinv.out.le;simpa using this
   have hroom:P.length<=6000:=by have:=hinv.out.room;omega
   obtain ⟨lo,hlo⟩:∃ lo,lo=e-4:=⟨_,rfl⟩
   have hmax:max 0 ((e:Int)-4)=(lo:Int):=by omega
   have hlo2:lo<=e:=by omega
   have HL:=Hi20 hlo;have HO:=Hi20 hown;clear hlo hown;go_wp2;go_loop [5,6] (fun n i=>∃ (k M:Nat),lo<=k/\k<=e/\i = .int .i64 k/\n = .int .i64 M/\M<10000/\Hid (M=sval s lo k)) (fun _ i=>e-(intOf i).toNat)
   case atStart=>exact ⟨lo,0,Nat.le_refl _,hlo2,rfl,rfl,by omega,Hi20 (sval_start s lo).symm⟩
   case round =>
    obtain ⟨k,M,hk1,hk2,rfl,rfl,hM,HM⟩:=hrel;by_cases hk:k<e
    ·have hks:k<s.size:=by omega
     obtain ⟨_,d1,d2⟩:=HD.out k (Nat.zero_le _) hks;have hst:=sval_step s lo k hk1 hks;have hb:M<1000:=by
      rw [HM.out];have h1:=sval_lt s lo s.size k (fun i a b=>HD.out i (Nat.zero_le _) b) hk1 (by omega);have h2:10 ^ (k-lo)<=10 ^ 3:=Nat.pow_le_pow_right (by decide) (by have:=HL.out;omega);exact Nat.lt_of_lt_of_le h1 h2
     have HST:=Hi20 hst;clear hst;go_wp2;go_round
     case rel=>exact ⟨k+1,10*M+(s[k].toNat-48),by omega,by omega,by go_num,by simp only [Value.int.injEq,true_and];omega,by omega,Hi20 (by rw [HST.out,HM.out])⟩
     case measure=>simp [intOf];omega
    ·obtain rfl:k=e:=by omega
     have HST:=Hi20 ((show TakeInv s N k P by have:=hinv.out;simpa using this).step he HL.out HD.out);go_wp2_with (at_builtin;refine wpList_append_own (wr.alloc (.cells #[.int .i64 (M:Int)] 3)) rfl _ _ 85 rfl w.heap.size 3 i0 (.int .i64 0) 1 8 Tryz.underlying85 hi hz0 hz1 hz2 rfl (by decide) _ P.length _ rfl (HO.out.alloc _) ⟨wr.heap.size,0,none⟩ 1 1 [.int .i64 (M:Int)] rfl rfl (one_at wr M _) (by intro u hu;simp at hu;subst hu;rfl) (by unfold maxLen;omega) (by omega) (by have:=hx.size;simp;omega) ?_;intro v' w1 hown1 hgrow1 hv1);go_roundw
     case rel =>
      refine ⟨(k:Int)-4,P ++ [M],rfl,by omega,by omega,Hi20 (by rw [HM.out,show ((k:Int)-4).toNat=lo by have:=HL.out;omega];exact HST.out),?_,?_⟩
      ·rw [List.length_append,List.map_append];exact hown1
      ·exact (hx.alloc _).grown hgrow1 (fun g hg=>own_base HO.out g hg)
     case measure=>simp [intOf];omega
  ·have hval:=hinv.out.val;rw [show Z.toNat=0 by omega,sval_start,Nat.mul_zero,Nat.add_zero] at hval;have HV:=Hi20 hval;have HH:=Hi20 (Holds.of_owns hown);clear hval hown;go_wp2_with (go_at_call 222;refine (cut_k P _ _ HH.out hinv.out.lt).mono ?_;rintro e w' ⟨v',rfl,rfl,hm,_⟩);go_ret;exact ⟨_,rfl,hx,by rw [HV.out] at hm;exact hm⟩
def pad4 (x:Nat):List UInt8:=List.replicate (4-(Lib.decDigits x).length) 48 ++ Lib.decDigits x
theorem dec_le4 {x:Nat} (h:x<10000):(Lib.decDigits x).length<=4:=dec_len_le (k:=4) (by decide) (by omega)
theorem pad4_length {x:Nat} (h:x<10000):(pad4 x).length=4:=by
 unfold pad4;have:=dec_le4 h;simp;omega
theorem pad4_val (x:Nat):val (pad4 x)=x:=by unfold pad4;rw [val_zeros,dec_val]
theorem pad4_digs (x:Nat):∀ b ∈ pad4 x,isDig b=true:=by
 intro b hb;rcases List.mem_append.1 hb with hb|hb
 ·rw [(List.mem_replicate.1 hb).2];decide
 ·exact dec_digs _ _ hb
theorem dec_join4 {m x:Nat} (hm:m≠0) (hx:x<10000):Lib.decDigits (x+10000*m)=Lib.decDigits m ++ pad4 x:=by
 have hv:val (Lib.decDigits m ++ pad4 x)=x+10000*m:=by
  rw [val_append,pad4_val,pad4_length hx,dec_val];omega
 rw [← hv];obtain ⟨b,t,e,hb⟩:=dec_head m hm;refine dec_of_digs _ (by simp [dec_ne]) (fun b hb=>?_) (Or.inl ?_)
 ·rcases List.mem_append.1 hb with h|h
  ·exact dec_digs _ _ h
  ·exact pad4_digs _ _ h
 ·rw [e];simp [hb]
theorem zs_pad {x:Nat} (hx:x<10000):zs (10000+(x:Int))=⟨(49 :: pad4 x).toArray⟩/\(zs (10000+(x:Int))).size=5/\(zs (10000+(x:Int))).extract 1 5=⟨(pad4 x).toArray⟩:=by
 have e:zs (10000+(x:Int))=⟨(49 :: pad4 x).toArray⟩:=by
  unfold zs;rw [show (10000+(x:Int))=((x+10000*1:Nat):Int) by omega,zl_nat,dec_join4 (by decide) hx,dec_one];rfl
 refine ⟨e,by rw [e];simp [ByteArray.size,pad4_length hx],?_⟩;rw [e];apply bytes_ext;rw [extract_list];show (pad4 x).take (5-1)=pad4 x;exact List.take_of_length_le (by rw [pad4_length hx];omega)
def topR (L:List Nat) (k:Nat):List UInt8:=Lib.decDigits (mv 10000 (L.drop (L.length-k)))
theorem topR_full (L:List Nat):topR L L.length=Lib.decDigits (mv 10000 L):=by
 unfold topR;rw [Nat.sub_self,List.drop_zero]
theorem topR_first {L:List Nat} {i:Nat} (hi:i<L.length) (h:i=L.length-1):topR L 1=Lib.decDigits (L[i]?.getD 0):=by
 unfold topR;rw [show L.length-1=i by omega,List.drop_eq_getElem_cons hi,List.drop_eq_nil_of_le (by omega),mv_single];simp [hi]
theorem topR_next {L:List Nat} {i k:Nat} (hL:Canon 10000 L) (hk:k≠0) (hi:i<L.length) (h:i=L.length-1-k) (hkl:k<L.length):topR L (k+1)=topR L k ++ pad4 (L[i]?.getD 0):=by
 unfold topR;rw [show L.length-(k+1)=i by omega,List.drop_eq_getElem_cons hi,show i+1=L.length-k by omega];have hc:=hL.drop (L.length-k);have hpos:=hc.pos (by decide) (by intro e;have:=congrArg List.length e;simp at this;omega);rw [show L[i]?.getD 0=L[i] by simp [hi],← dec_join4 (by omega) (hL.lt _ (List.getElem_mem hi))];rfl
theorem topR_len {L:List Nat} (hL:Below' 10000 L) (k:Nat) (hk:k<=L.length) (h0:0<k):(topR L k).length<=4*k:=by
 unfold topR;refine dec_len_le (by omega) ?_;have:=mv_lt (B:=10000) (l:=L.drop (L.length-k)) (fun x hx=>hL x (List.mem_of_mem_drop hx));rw [List.length_drop,show L.length-(L.length-k)=k by omega] at this;rwa [Nat.pow_mul]
theorem cat_bytes (x y:List UInt8):(⟨x.toArray⟩:ByteArray) ++ ⟨y.toArray⟩=⟨(x ++ y).toArray⟩:=by
 apply bytes_ext;rw [ByteArray.data_append,Array.toList_append]
set_option maxHeartbeats 1000000 in
theorem give_zero (ad:Option Addr) (c:Nat) (w:World):Calls Tryz.prog 223 #[.slice ad 0 c] w (Ret w (.string (zs 0))):=by
 rw [zs_zero];go_enter Tryz.func223,Tryz.ntmps223;go_wp2;go_ret;exact ⟨rfl,Ext.refl _⟩
theorem give_pos (N:Nat) (ad:Option Addr) (n c:Nat) (w:World) (hm:RMag w (.slice ad n c) N) (hn0:0<n) (hn:n<=6000) (g:Gd w) :
    Calls Tryz.prog 223 #[.slice ad n c] w (Ret w (.string (zs (N:Int)))):=by
 obtain ⟨L,hL,cL,hLv⟩:=hm;obtain ⟨ad',ca,ba,oa,heq,h1a,hca,hba,hCa⟩:=hL;simp only [Value.slice.injEq] at heq;obtain ⟨rfl,hnl,rfl⟩:=heq;have HN:=Hi20 hnl;have HLV:=Hi20 hLv;have HC:=Hi20 cL;rw [← hnl] at h1a hba hCa;obtain ⟨rfl,hbs⟩:=hba hn0;have H2:=Hi20 hCa;have HG:=Hi20 g;obtain ⟨j,rfl⟩:∃ j,n=j+1:=⟨n-1,by omega⟩
 obtain ⟨x,hx⟩:∃ x,x=L[j]?.getD 0:=⟨_,rfl⟩
 have hxlt:x<10000:=by rw [hx];exact getD_lt' (by decide) cL.lt j
 have hc0:w.cell? ⟨ba,oa+j,none⟩=some (.int .i64 (x:Int)):=by rw [hx];exact hCa j (by omega)
 have HX:=Hi20 hx;have ej:((j+1:Nat):Int)-1=(j:Int):=by omega
 clear hnl hLv hCa cL g hba hx hn0;go_enter Tryz.func223,Tryz.ntmps223;go_wp2_with (go_at_call 193;refine (itoa_c (x:Int) (by omega) (by omega) _ HG.out).mono ?_;rintro e w1 ⟨rfl,e1⟩);clear ej hc0;go_loopw [3,4] (fun out i W=>∃ k:Nat,1<=k/\k<=j+1/\i = .int .i64 ((j:Int)-k)/\(∃ o:ByteArray,out = .string o/\o.size<=24000/\Hid (o=⟨(topR L k).toArray⟩))/\Ext w W) (fun _ i _=>(intOf i+1).toNat)
 case atStart =>
  refine ⟨1,Nat.le_refl _,by omega,by congr 1;omega,⟨zs (x:Int),rfl,by rw [zs_nat_size];have:=dec_le4 hxlt;omega,Hi20 ?_⟩,e1⟩;rw [topR_first (by rw [← HN.out];exact Nat.lt_succ_self j) (by rw [← HN.out];rfl),← HX.out];unfold zs;rw [zl_nat]
 case round =>
  obtain ⟨k,hk1,hk2,rfl,⟨o,rfl,ho,HO⟩,hx⟩:=hrel;by_cases hk:k<=j
  ·obtain ⟨i,hi⟩:∃ i,i=j-k:=⟨_,rfl⟩
   have ei:(j:Int)-k=(i:Int):=by omega
   rw [ei];obtain ⟨y,hy⟩:∃ y,y=L[i]?.getD 0:=⟨_,rfl⟩
   have hylt:y<10000:=by rw [hy];exact getD_lt' (by decide) HC.out.lt i
   have hc0:wr.cell? ⟨ba,oa+i,none⟩=some (.int .i64 (y:Int)):=by rw [hy];exact (hx.cell (p:=⟨ba,oa+i,none⟩) hbs).trans (H2.out i (by omega))
   have hi2:i<j+1:=by omega
   obtain ⟨_,z2,z3⟩:=zs_pad hylt;obtain ⟨zz,hzz⟩:∃ zz,zz=zs (10000+(y:Int)):=⟨_,rfl⟩
   rw [← hzz] at z2 z3;have HZ:=Hi20 hzz;have Z3:=Hi20 z3;have HY:=Hi20 hy;have HI:=Hi20 hi;have z3s:(zz.extract 1 5).size=4:=by rw [z3];simp [ByteArray.size,pad4_length hylt]
   have Z3S:=Hi20 z3s;have hk1':(1:Int)<=(zz.size:Int):=by omega
   have HO4:Hid (o ++ zz.extract 1 5=⟨(topR L (k+1)).toArray⟩):=Hi20 (by
    rw [HO.out,z3,cat_bytes,topR_next HC.out (by omega) (by rw [← HN.out];omega) (by rw [← HN.out];omega) (by rw [← HN.out];omega),hy])
   clear ei hzz z3 hy hi z3s;go_wp2_with (go_at_call 193;refine (itoa_c (10000+(y:Int)) (by omega) (by omega) _ (HG.out.ext hx)).mono ?_;rw [← HZ.out];rintro e w2 ⟨rfl,e2⟩);go_roundw
   case rel =>
    refine ⟨k+1,by omega,by omega,by have:=HI.out;congr 1;omega,⟨_,rfl,?_,HO4⟩,hx.trans e2⟩;rw [HO4.out];have:=topR_len HC.out.lt (k+1) (by rw [← HN.out];omega) (by omega);simp [ByteArray.size];omega
   case measure=>(simp [intOf]);try (have:=HI.out;omega)
  ·obtain rfl:k=j+1:=by omega
   have E:Hid (o=zs (N:Int)):=Hi20 (by rw [HO.out,HN.out,topR_full,HLV.out];unfold zs;rw [zl_nat]);have hneg:¬ (0:Int)<=(j:Int)-((j+1:Nat):Int):=by omega
   go_wp2;go_ret;exact ⟨ret_qs E.out,hx⟩
theorem RMag.len_le {w:World} {ad:Option Addr} {n c N:Nat} (h:RMag w (.slice ad n c) N) (f:RFit N):n<=5000:=by
 obtain ⟨l,⟨ad',cap,b,off,hv,_⟩,hc,hm⟩:=h;simp only [Value.slice.injEq] at hv;rw [hv.2.1];exact f.len hc hm
theorem give_c (N:Nat) (ad:Option Addr) (n c:Nat) (w:World) (hm:RMag w (.slice ad n c) N) (f:RFit N) (g:Gd w) :
    Calls Tryz.prog 223 #[.slice ad n c] w (Ret w (.string (zs (N:Int)))):=by
 have hn:=hm.len_le f;by_cases h0:n=0
 ·subst h0;have:=hm.len_iff.1 rfl;subst this;exact give_zero ad c w
 ·exact give_pos N ad n c w hm (by omega) (by omega) g
set_option maxHeartbeats 1000000 in
theorem made_c (s:Bool) (N0:Nat) (v:Value) (w:World) (hm:RMag w v N0) (f:RFit N0) (g:Gd w) :
    Calls Tryz.prog 151 #[.bool s,v] w (Ret w (.string (zs (sgn s N0)))):=by
 obtain ⟨L,hL,cL,rfl⟩:=hm;have hcut:=cut_k L v w hL cL.lt;obtain ⟨N,hN⟩:∃ N,N=mv 10000 L:=⟨_,rfl⟩
 unfold CutPostK at hcut;rw [← hN] at hcut f ⊢;have HC:=Hi20 hcut;have HF:=Hi20 f;have HG:=Hi20 g;obtain ⟨ad,nn,cc,rfl⟩:∃ ad nn cc,v = .slice ad nn cc:=by obtain ⟨ad,cap,b,off,hv,_⟩:=hL;exact ⟨_,_,_,hv⟩
 clear hcut f g hL cL hN;by_cases h0:N=0
 ·have H0:Hid (sgn s N=(N:Int)):=Hi20 (by subst h0;exact sgn_zero s);have H1:=Hi20 h0;clear h0;cases s
  all_goals
   go_enter Tryz.func151,Tryz.ntmps151;go_wp2_with (first
    | (go_at_call 222;refine HC.out.mono ?_;rintro e w' ⟨v',rfl,rfl,hm,_,_,k,cap,_,rfl⟩;have hk0:k=0:=hm.len_iff.2 H1.out;subst hk0)
    | (go_at_call 223;refine (give_c N _ _ _ _ hm HF.out HG.out).mono ?_;rintro e w1 ⟨rfl,e1⟩))
   go_ret;exact ⟨ret_str H0.out.symm,e1⟩
 ·cases s
  ·have H0:Hid (sgn false N=(N:Int)):=Hi20 rfl;go_enter Tryz.func151,Tryz.ntmps151;go_wp2_with (first
    | (go_at_call 222;refine HC.out.mono ?_;rintro e w' ⟨v',rfl,rfl,hm,_,_,k,cap,_,rfl⟩)
    | (go_at_call 223;refine (give_c N _ _ _ _ hm HF.out HG.out).mono ?_;rintro e w1 ⟨rfl,e1⟩))
   go_ret;exact ⟨ret_str H0.out.symm,e1⟩
  ·have H0:Hid ((⟨#[45]⟩:ByteArray) ++ zs (N:Int)=zs (sgn true N)):=Hi20 (zs_neg_pos (by omega));have hsz:(zs (N:Int)).size<=30000:=by
    rw [zs_nat_size];refine Nat.le_trans (dec_len_le (k:=20000) (by decide) ?_) (by decide);have:=HF.out.out;rwa [show (10000:Nat)=10 ^ 4 by decide,← Nat.pow_mul,show 4*fitR=20000 by decide] at this
   have H1:=Hi20 h0;clear h0;go_enter Tryz.func151,Tryz.ntmps151;go_wp2_with (first
    | (go_at_call 222;refine HC.out.mono ?_;rintro e w' ⟨v',rfl,rfl,hm,_,_,k,cap,_,rfl⟩;have hk0:0<k:=by rcases Nat.eq_zero_or_pos k with h|h;(exact absurd (hm.len_iff.1 h) H1.out);exact h)
    | (go_at_call 223;refine (give_c N _ _ _ _ hm HF.out HG.out).mono ?_;rintro e w1 ⟨rfl,e1⟩))
   go_ret;exact ⟨ret_qs H0.out,e1⟩
def imv:List Int->Int
 | []=>0
 | x :: t=>x+10000*imv t
theorem imv_append (l m:List Int):imv (l ++ m)=imv l+10000 ^ l.length*imv m:=by
 induction l with
 | nil=>simp [imv]
 | cons x t ih =>
  simp only [List.cons_append,imv,ih,List.length_cons];rw [Int.pow_succ,Int.mul_add,← Int.mul_assoc,Int.mul_comm 10000 (10000 ^ t.length),Int.add_assoc]
theorem imv_snoc (l:List Int) (x:Int):imv (l ++ [x])=imv l+10000 ^ l.length*x:=by
 rw [imv_append];simp [imv]
theorem imv_nat (l:List Nat):imv (l.map Int.ofNat)=(mv 10000 l:Int):=by
 induction l with
 | nil=>rfl
 | cons x t ih=>simp only [List.map_cons,imv,ih,mv];simp
theorem imv_take_succ (l:List Int) (i:Nat) (h:i<l.length):imv (l.take (i+1))=imv (l.take i)+10000 ^ i*l[i]:=by
 rw [List.take_succ_eq_append_getElem h,imv_snoc,List.length_take,Nat.min_eq_left (Nat.le_of_lt h)]
def HoldsI (w:World) (v:Value) (l:List Int):Prop :=
 ∃ (ad:Option Addr) (cap b off:Nat),v = .slice ad l.length cap/\l.length<=cap/\cap<=9223372036854775807/\(0<l.length->ad=some ⟨b,off,none⟩/\b<w.heap.size) /\
  ∀ i,i<l.length->w.cell? ⟨b,off+i,none⟩=some (.int .i64 (l.getD i 0))
theorem HoldsI.ext {w w':World} {v:Value} {l:List Int} (h:HoldsI w v l) (e:Ext w w'):HoldsI w' v l:=by
 obtain ⟨ad,cap,b,off,hv,h1,h2,h3,h4⟩:=h;refine ⟨ad,cap,b,off,hv,h1,h2,fun h0=>⟨(h3 h0).1,Nat.lt_of_lt_of_le (h3 h0).2 e.size⟩,fun i hi=>(e.cell (h3 (by omega)).2).trans (h4 i hi)⟩
theorem HoldsI.of_owns {w:World} {base e n:Nat} {v:Value} {l:List Int} (h:w.ownsRow base e 1 v n (l.map (Value.int .i64))):HoldsI w v l:=by
 have hlen:l.length=n:=by have:=h.1;simpa using this
 rcases h.2 with ⟨rfl,h0⟩|⟨g,cap,cur,rfl,hg,hh,h1,h2,h3,h4⟩
 ·obtain rfl:l=[]:=List.length_eq_zero_iff.1 (by omega);exact ⟨none,0,0,0,rfl,by simp,by omega,fun h=>by simp at h,fun i h=>by simp at h⟩
 ·refine ⟨some ⟨g,0,none⟩,cap,g,0,by rw [hlen],by omega,h2,fun _=>⟨rfl,(Array.getElem?_eq_some_iff.1 hh).1⟩,fun i hi=>?_⟩;have:=h.cellAt i (by omega);rw [Nat.zero_add,this];simp [hi]
theorem List_getD_lt {l:List Int} {k:Nat} (h:k<l.length):l.getD k 0=l[k]:=by simp [h]
theorem pow_pos' (n:Nat):(0:Int)<10000 ^ n:=Int.pow_pos (by decide)
structure CarInv (xs:List Int) (k:Nat) (ov:Int) (P:List Nat):Prop where
 len:P.length=k
 lt:Below' 10000 P
 val:(mv 10000 P:Int)+10000 ^ k*ov=imv (xs.take k)
theorem imv_mv_lt {P:List Nat} (h:Below' 10000 P):(mv 10000 P:Int)<10000 ^ P.length:=by
 have:=mv_lt h;have e:((10000 ^ P.length:Nat):Int)=(10000:Int) ^ P.length:=by rw [Int.natCast_pow];rfl
 rw [← e];omega
theorem CarInv.nonneg {xs:List Int} {k:Nat} {ov:Int} {P:List Nat} (h:CarInv xs k ov P) (hk:xs.length<=k) (h0:0<=imv xs):0<=ov:=by
 have hv:=h.val;rw [List.take_of_length_le hk] at hv;have hl:=imv_mv_lt h.lt;rw [h.len] at hl;rcases Int.lt_or_le ov 0 with hn|hn
 ·exfalso;have:(10000:Int) ^ k*ov<=10000 ^ k*(-1):=Int.mul_le_mul_of_nonneg_left (by omega) (Int.le_of_lt (pow_pos' k));rw [Int.mul_neg,Int.mul_one] at this;omega
 ·exact hn
theorem CarInv.room {xs:List Int} {k:Nat} {ov:Int} {P:List Nat} (h:CarInv xs k ov P) (hk:xs.length<=k) (hov:0<ov) (f:RFit (imv xs).toNat) (h0:0<=imv xs):k<fitR:=by
 have hv:=h.val;rw [List.take_of_length_le hk] at hv;have h1:(10000:Int) ^ k*1<=10000 ^ k*ov:=Int.mul_le_mul_of_nonneg_left (by omega) (Int.le_of_lt (pow_pos' k));have h2:((10000 ^ k:Nat):Int)<=imv xs:=by
  rw [Int.natCast_pow,← hv];rw [Int.mul_one] at h1;have:((10000:Nat):Int)=10000:=rfl;rw [this];omega
 have h3:10000 ^ k<10000 ^ fitR:=by have:=f.out;omega
 exact (Nat.pow_lt_pow_iff_right (by decide)).1 h3
theorem tmod_cases (t:Int):((t.tmod 10000<0/\t.tmod 10000+10000=t % 10000/\(t-(t.tmod 10000+10000)).tdiv 10000=t / 10000)∨(0<=t.tmod 10000/\t.tmod 10000=t % 10000/\(t-t.tmod 10000).tdiv 10000=t / 10000))/\-9999<=t.tmod 10000/\t.tmod 10000<=9999:=by
 have h1:=Int.tmod_lt_of_pos t (show (0:Int)<10000 by decide);have h2:=Int.lt_tmod_of_pos t (show (0:Int)<10000 by decide);have h3:=Int.mul_tdiv_add_tmod t 10000;have hd:=Int.mul_ediv_add_emod t 10000;have he:=Int.emod_nonneg t (show (10000:Int)≠0 by decide);have he2:=Int.emod_lt_of_pos t (show (0:Int)<10000 by decide);refine ⟨?_,by omega,by omega⟩;rcases Int.lt_or_le (t.tmod 10000) 0 with h|h
 ·refine Or.inl ⟨h,by omega,?_⟩;have:t-(t.tmod 10000+10000)=(t / 10000)*10000:=by omega
  rw [this,Int.mul_tdiv_cancel _ (by decide)]
 ·refine Or.inr ⟨h,by omega,?_⟩;have:t-t.tmod 10000=(t / 10000)*10000:=by omega
  rw [this,Int.mul_tdiv_cancel _ (by decide)]
theorem CarInv.step {xs:List Int} {k:Nat} {ov t:Int} {P:List Nat} (h:CarInv xs k ov P) (ht:10000 ^ k*t=10000 ^ k*ov+(imv (xs.take (k+1))-imv (xs.take k))):CarInv xs (k+1) (t / 10000) (P ++ [(t % 10000).toNat]):=by
 have he:=Int.emod_nonneg t (show (10000:Int)≠0 by decide);have he2:=Int.emod_lt_of_pos t (show (0:Int)<10000 by decide);have hd:=Int.mul_ediv_add_emod t 10000;refine ⟨by simp [h.len],?_,?_⟩
 ·intro x hx;rcases List.mem_append.1 hx with hx|hx
  ·exact h.lt x hx
  ·simp only [List.mem_singleton] at hx;omega
 ·rw [mv_snoc,h.len];have e:((mv 10000 P+10000 ^ k*(t % 10000).toNat:Nat):Int)=(mv 10000 P:Int)+10000 ^ k*(t % 10000):=by
   rw [Int.natCast_add,Int.natCast_mul,Int.natCast_pow,Int.toNat_of_nonneg he];rfl
  rw [e,Int.pow_succ,Int.mul_assoc,Int.add_assoc,← Int.mul_add,Int.add_comm (t % 10000),hd,ht];have:=h.val;omega
set_option maxHeartbeats 4000000 in
theorem carry_c (xs:List Int) (v:Value) (w:World) (h:HoldsI w v xs) (hb:∀ x ∈ xs,-1000000000000000<=x/\x<=1000000000000000) (hl:xs.length<=20000) (h0:0<=imv xs) (f:RFit (imv xs).toNat) :
    Calls Tryz.prog 224 #[v] w (RPost w (imv xs).toNat):=by
 obtain ⟨i0,hi,hz0,hz1,hz2⟩:=info_parts Tryz.infoInt;obtain ⟨n,hn⟩:∃ n,n=xs.length:=⟨_,rfl⟩
 obtain ⟨ad,cap,b,off,rfl,h1,hc,hbk,hC⟩:=h;rw [← hn] at h1 hbk hC hl ⊢;have HN:=Hi20 hn;have HB:=Hi20 hb;have H1:=Hi20 hbk;have H2:=Hi20 hC;have H0:=Hi20 h0;have HF:=Hi20 f;clear hn hb hbk hC h0 f;go_enter Tryz.func224,Tryz.ntmps224;go_wp2
 go_loopw [3, 4, 5] (fun out over i W => ∃ (k : Nat) (ov : Int) (P : List Nat), i = .int .i64 k /\ over = .int .i64 ov /\ -2000000000000 <= ov /\ ov <= 2000000000000 /\ k <= 30000 /\ Hid (CarInv xs k ov P) /\
     W.ownsRow w.heap.size 3 1 out k (P.map fun (x:Nat)=>Value.int .i64 x)/\Ext w W)
  (fun _ over i _=>(n-(intOf i).toNat)*10000000000000000+(intOf over).natAbs)
 case atStart=>exact ⟨0,0,[],rfl,rfl,by omega,by omega,by omega,Hi20 ⟨rfl,fun x hx=>by simp at hx,by simp [mv,imv]⟩,⟨rfl,Or.inl ⟨rfl,rfl⟩⟩,Ext.refl _⟩
 case round =>
  obtain ⟨k,ov,P,rfl,rfl,hv1,hv2,hk3,hinv,hown,hx⟩:=hrel;obtain ⟨oa,on,oc,rfl⟩:=owns_slice hown;have HO:=Hi20 hown;clear hown;by_cases hk:k<n
  ·obtain ⟨x,hxx⟩:∃ x,x=xs.getD k 0:=⟨_,rfl⟩
   have hx1:-1000000000000000<=x/\x<=1000000000000000:=by
    rw [hxx,List_getD_lt (by rw [← HN.out];exact hk)];exact HB.out _ (List.getElem_mem _)
   obtain ⟨hx1,hx2⟩:=hx1;have hcell:wr.cell? ⟨b,off+k,none⟩=some (.int .i64 x):=by rw [hxx];exact (hx.cell (p:=⟨b,off+k,none⟩) (H1.out (by omega)).2).trans (H2.out k hk)
   have hix:=run_index 85 3 Tryz.underlying85 Tryz.sizeInt (cap:=cap) (fun h=>(H1.out h).1) k hk;obtain ⟨hcs,ht1,ht2⟩:=tmod_cases (ov+x);obtain ⟨t,ht⟩:∃ t,t=ov+x:=⟨_,rfl⟩
   have hkk:k<xs.length:=by rw [← HN.out];exact hk
   have HST:=Hi20 (hinv.out.step (t:=t) (by
    rw [imv_take_succ xs k hkk,ht,Int.mul_add,hxx,List_getD_lt hkk];omega))
   have HT:=Hi20 ht;rw [← ht] at hcs ht1 ht2;have tb1:-1002000000000000<=t:=by omega
   have tb2:t<=1002000000000000:=by omega
   have hq:=Int.mul_ediv_add_emod t 10000;have he:=Int.emod_nonneg t (show (10000:Int)≠0 by decide);have he2:=Int.emod_lt_of_pos t (show (0:Int)<10000 by decide);have Q1:Hid (-100200000001<=t / 10000/\t / 10000<=100200000000):=Hi20 (by omega);have E0:=Hi20 (And.intro he he2);have htt:ov+x=t:=ht.symm;clear hxx ht hq he he2 hkk HT;obtain ⟨q,hqq⟩:∃ q,q=t / 10000:=⟨_,rfl⟩
   obtain ⟨D,hDD⟩:∃ D:Nat,(D:Int)=t % 10000:=⟨(t % 10000).toNat,Int.toNat_of_nonneg E0.out.1⟩
   have hD1:(D:Int)<=9999:=by have:=E0.out.2;omega
   have hq1:-100200000001<=q:=by rw [hqq];exact Q1.out.1
   have hq2:q<=100200000000:=by rw [hqq];exact Q1.out.2
   have HQ:=Hi20 hqq;have HDD:=Hi20 hDD;have HS2:Hid (CarInv xs (k+1) q (P ++ [D])):=Hi20 (by have:=HST.out;rw [← hDD,Int.toNat_natCast,← hqq] at this;exact this);rw [← hqq,← hDD] at hcs;clear hqq hDD;rcases hcs with ⟨c1,c2,c3⟩|⟨c1,c2,c3⟩
   ·obtain ⟨n0,hn0⟩:∃ n0,t.tmod 10000=n0:=⟨_,rfl⟩
    rw [hn0] at c1 c2 ht1 ht2;rw [hn0,c2] at c3;go_wp2_with (at_builtin;refine wpList_append_own (wr.alloc (.cells #[.int .i64 (D:Int)] 3)) rfl _ _ 85 rfl w.heap.size 3 i0 (.int .i64 0) 1 8 Tryz.underlying85 hi hz0 hz1 hz2 rfl (by decide) _ k _ rfl (HO.out.alloc _) ⟨wr.heap.size,0,none⟩ 1 1 [.int .i64 (D:Int)] rfl rfl (one_at wr D _) (by intro u hu;simp at hu;subst hu;rfl) (by unfold maxLen;omega) (by omega) (by have:=hx.size;simp;omega) ?_;intro v' w1 hown1 hgrow1 hv1);go_roundw
    case rel=>exact ⟨k+1,q,P ++ [D],by go_num,rfl,by omega,by omega,by omega,HS2,by rw [List.map_append];exact hown1,(hx.alloc _).grown hgrow1 (fun g hg=>own_base HO.out g hg)⟩
    case measure=>simp [intOf];omega
   ·rw [c2] at c1 ht1 ht2;rw [c2] at c3;go_wp2_with (at_builtin;refine wpList_append_own (wr.alloc (.cells #[.int .i64 (D:Int)] 3)) rfl _ _ 85 rfl w.heap.size 3 i0 (.int .i64 0) 1 8 Tryz.underlying85 hi hz0 hz1 hz2 rfl (by decide) _ k _ rfl (HO.out.alloc _) ⟨wr.heap.size,0,none⟩ 1 1 [.int .i64 (D:Int)] rfl rfl (one_at wr D _) (by intro u hu;simp at hu;subst hu;rfl) (by unfold maxLen;omega) (by omega) (by have:=hx.size;simp;omega) ?_;intro v' w1 hown1 hgrow1 hv1);go_roundw
    case rel=>exact ⟨k+1,q,P ++ [D],by go_num,rfl,by omega,by omega,by omega,HS2,by rw [List.map_append];exact hown1,(hx.alloc _).grown hgrow1 (fun g hg=>own_base HO.out g hg)⟩
    case measure=>simp [intOf];omega
  ·have hnk:xs.length<=k:=by rw [← HN.out];omega
   have hov:=hinv.out.nonneg hnk H0.out;by_cases hz:ov=0
   ·subst hz;have hval:=hinv.out.val;rw [Int.mul_zero,Int.add_zero,List.take_of_length_le hnk] at hval;have HV:Hid (mv 10000 P=(imv xs).toNat):=Hi20 (by omega);have hlen:=hinv.out.len;subst hlen;have HH:=Hi20 (Holds.of_owns HO.out);clear hval hnk hov;go_wp2_with (go_at_call 222;refine (cut_k P _ _ HH.out hinv.out.lt).mono ?_;rintro e w' ⟨v',rfl,rfl,hm,_⟩);go_ret;exact ⟨_,rfl,hx,by rw [HV.out] at hm;exact hm⟩
   ·obtain ⟨hcs,ht1,ht2⟩:=tmod_cases ov;obtain ⟨t,ht⟩:∃ t,t=ov:=⟨_,rfl⟩
    subst ht;have hk5:k<fitR:=hinv.out.room hnk (by omega) HF.out H0.out;have hk6:k<5000:=hk5;have HST:=Hi20 (hinv.out.step (t:=t) (by
     rw [List.take_of_length_le hnk,List.take_of_length_le (by omega)];omega))
    have tb1:1<=t:=by omega
    have tb2:t<=2000000000000:=by omega
    have hq:=Int.mul_ediv_add_emod t 10000;have he:=Int.emod_nonneg t (show (10000:Int)≠0 by decide);have he2:=Int.emod_lt_of_pos t (show (0:Int)<10000 by decide);have Q1:Hid (-100200000001<=t / 10000/\t / 10000<=100200000000):=Hi20 (by omega);have Q2:Hid ((t / 10000).natAbs<t.natAbs):=Hi20 (by omega);have E0:=Hi20 (And.intro he he2);clear hq he he2 hnk hov hk5;obtain ⟨q,hqq⟩:∃ q,q=t / 10000:=⟨_,rfl⟩
    obtain ⟨D,hDD⟩:∃ D:Nat,(D:Int)=t % 10000:=⟨(t % 10000).toNat,Int.toNat_of_nonneg E0.out.1⟩
    have hD1:(D:Int)<=9999:=by have:=E0.out.2;omega
    have hq1:-100200000001<=q:=by rw [hqq];exact Q1.out.1
    have hq2:q<=100200000000:=by rw [hqq];exact Q1.out.2
    have HQ:=Hi20 hqq;have HDD:=Hi20 hDD;have HS2:Hid (CarInv xs (k+1) q (P ++ [D])):=Hi20 (by have:=HST.out;rw [← hDD,Int.toNat_natCast,← hqq] at this;exact this);rw [← hqq,← hDD] at hcs;clear hqq hDD;rcases hcs with ⟨c1,c2,c3⟩|⟨c1,c2,c3⟩
    ·obtain ⟨n0,hn0⟩:∃ n0,t.tmod 10000=n0:=⟨_,rfl⟩
     rw [hn0] at c1 c2 ht1 ht2;rw [hn0,c2] at c3;go_wp2_with (at_builtin;refine wpList_append_own (wr.alloc (.cells #[.int .i64 (D:Int)] 3)) rfl _ _ 85 rfl w.heap.size 3 i0 (.int .i64 0) 1 8 Tryz.underlying85 hi hz0 hz1 hz2 rfl (by decide) _ k _ rfl (HO.out.alloc _) ⟨wr.heap.size,0,none⟩ 1 1 [.int .i64 (D:Int)] rfl rfl (one_at wr D _) (by intro u hu;simp at hu;subst hu;rfl) (by unfold maxLen;omega) (by omega) (by have:=hx.size;simp;omega) ?_;intro v' w1 hown1 hgrow1 hv1);go_roundw
     case rel=>exact ⟨k+1,q,P ++ [D],by go_num,rfl,by omega,by omega,by omega,HS2,by rw [List.map_append];exact hown1,(hx.alloc _).grown hgrow1 (fun g hg=>own_base HO.out g hg)⟩
     case measure=>simp [intOf];have:=Q2.out;rw [← HQ.out] at this;omega
    ·rw [c2] at c1 ht1 ht2;rw [c2] at c3;go_wp2_with (at_builtin;refine wpList_append_own (wr.alloc (.cells #[.int .i64 (D:Int)] 3)) rfl _ _ 85 rfl w.heap.size 3 i0 (.int .i64 0) 1 8 Tryz.underlying85 hi hz0 hz1 hz2 rfl (by decide) _ k _ rfl (HO.out.alloc _) ⟨wr.heap.size,0,none⟩ 1 1 [.int .i64 (D:Int)] rfl rfl (one_at wr D _) (by intro u hu;simp at hu;subst hu;rfl) (by unfold maxLen;omega) (by omega) (by have:=hx.size;simp;omega) ?_;intro v' w1 hown1 hgrow1 hv1);go_roundw
     case rel=>exact ⟨k+1,q,P ++ [D],by go_num,rfl,by omega,by omega,by omega,HS2,by rw [List.map_append];exact hown1,(hx.alloc _).grown hgrow1 (fun g hg=>own_base HO.out g hg)⟩
     case measure=>simp [intOf];have:=Q2.out;rw [← HQ.out] at this;omega
end Go.Proofs.YtmahadmefplbnaaGreatDoor
