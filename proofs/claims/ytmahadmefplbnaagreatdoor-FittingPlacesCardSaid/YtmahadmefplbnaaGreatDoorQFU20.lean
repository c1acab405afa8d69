/- Part 20. -/
import Derived.Test.YtmahadmefplbnaaGreatDoorQFUB
import Derived.Test.YtmahadmefplbnaaGreatDoorQFU19
set_option maxRecDepth 100000
set_option maxHeartbeats 2000000
namespace Go.Proofs.YtmahadmefplbnaaGreatDoor
open Go Go.RowKit
theorem tT (s:ByteArray) (lo e:Nat) (h:lo<=e) (he:e<=s.size):eE s 0 e=eE s 0 lo*10 ^ (e-lo)+eE s lo e:=by
 unfold eE;simp only [List.drop_zero,Nat.sub_zero];have hl:s.data.toList.length=s.size:=(dU s).symm;have e1:s.data.toList.take e=s.data.toList.take lo ++ (s.data.toList.drop lo).take (e-lo):=by
  rw [← List.take_append_drop lo (s.data.toList.take e),List.take_take,Nat.min_eq_left h,List.drop_take]
 rw [e1,cB];simp only [List.length_take,List.length_drop,hl];rw [Nat.min_eq_left ae]
structure jj (s:ByteArray) (V e:Nat) (P:List Nat):Prop where
 le:e<=s.size
 len:0<e->4*P.length+e=s.size
 room:4*P.length<=s.size+3
 lt:aG 10000 P
 val:mv 10000 P+10000 ^ P.length*eE s 0 e=V
theorem jj.step {s:ByteArray} {V e lo:Nat} {P:List Nat} (h:jj s V e P) (h0:0<e) (hlo:lo=e-4) (hd:vF s 0 s.size):jj s V lo (P ++ [eE s lo e]):=by
 have hl:=h.len h0;have hle:=h.le;refine ⟨ae,?_,?_,?_,?_⟩
 ·intro h1;simp;omega
 ·simp;omega
 ·intro x hx;rcases List.mem_append.1 hx with hx|hx
  ·exact h.lt x hx
  ·simp only [List.mem_singleton] at hx;subst hx;have h1:=lW s lo s.size e (fun i a b=>hd i (Nat.zero_le _) b) ae h.le;have h2:10 ^ (e-lo)<=10 ^ 4:=Nat.pow_le_pow_right af ae;exact Nat.lt_of_lt_of_le h1 h2
 ·rw [eK,← h.val,tT s lo e ae h.le];by_cases h4:4<=e
  ·rw [show e-lo=4 by omega,show (10:Nat) ^ 4=10000 by decide,List.length_append,List.length_singleton,Nat.pow_succ];generalize 10000 ^ P.length=p;generalize eE s 0 lo=x;generalize eE s lo e=y;rw [Nat.mul_add,Nat.mul_assoc p,Nat.mul_comm x];omega
  ·obtain rfl:lo=0:=ae;rw [cC];simp
def xp (w:World) (n:Nat) (e:Ending) (w':World):Prop:=∃ v,e = .returned v/\Ext w w'/\cU w' v n
theorem jH (w:World) (c:Int) (T:TypeId):∀ j u,[Value.int .i64 c][j]?=some u->(w.alloc (.cells #[.int .i64 c] T)).cell? ((⟨w.heap.size,0,none⟩:Addr).add j)=some u:=by
 intro j u hu
 match j,hu with
 | 0,hu=>simp at hu;subst hu;rw [Addr.add_lit];exact (ak.new w #[.int .i64 c] T).cell 0 rfl
theorem nF {w:World} {B e n:Nat} {v:Value} {xs:List Value} (h:w.ownsRow B e 1 v n xs):∃ ad m c,v = .slice ad m c:=by
 rcases h.2 with ⟨rfl,_⟩|⟨g,cap,cur,rfl,_⟩
 ·exact ⟨_,_,_,rfl⟩
 ·exact ⟨_,_,_,rfl⟩
theorem aN (N:Nat) (w:World) (hN:(Lib.decDigits N).length<=20000) :
    Calls Tryz.prog 153 #[.string (zs (N:Int))] w (xp w N):=by
 obtain ⟨i0,hi,hz0,hz1,hz2⟩:=info_parts Tryz.kt;obtain ⟨s,hs⟩:∃ s,s=zs (N:Int):=⟨_,rfl⟩
 rw [← hs];have hsl:s.data.toList=[] ++ Lib.decDigits N ++ []:=by rw [hs,bJ,cY];simp
 have hd:=iK hsl (bC _);have hsv:=j0 hsl;have hsz:s.size=(Lib.decDigits N).length:=by rw [hs,a8]
 simp only [List.length_nil,Nat.zero_add] at hd hsv;rw [← hsz] at hd hsv;rw [dp] at hsv;have hs2:s.size<=20000:=ae;have HD:=ai hd;have HI0:Hid (jj s N s.size []):=ai ⟨Nat.le_refl _,fun _=>by simp,by simp,fun x hx=>by simp at hx,by rw [hsv];simp [mv]⟩;clear hs hsl hd hsv hsz hN;go_enter Tryz.func153,Tryz.ntmps153;go_wp2;go_loopw [3,4] (fun out z W=>∃ (Z:Int) (P:List Nat),z = .int .i64 Z/\-4<=Z/\Z<=20000/\Hid (jj s N Z.toNat P)/\W.ownsRow w.heap.size 3 1 out P.length (P.map fun (x:Nat)=>Value.int .i64 x)/\Ext w W)
  (fun _ z _=>(intOf z).toNat)
 case atStart=>exact ⟨s.size,[],rfl,ae,ae,ai (by simpa using HI0.o),⟨rfl,Or.inl ⟨rfl,rfl⟩⟩,Ext.refl _⟩
 case round =>
  obtain ⟨Z,P,rfl,hZ1,hZ2,hinv,hown,hx⟩:=hrel;obtain ⟨oa,on,oc,rfl⟩:=nF hown;by_cases hZ:0<Z
  ·obtain ⟨e,rfl⟩:∃ e:Nat,Z=e:=⟨Z.toNat,ae⟩
   have he:0<e:=ae;have hle:e<=s.size:=by have:=hinv.out.le;simpa using this
   have hroom:P.length<=6000:=by have:=hinv.out.room;omega
   obtain ⟨lo,hlo⟩:∃ lo,lo=e-4:=⟨_,rfl⟩
   have hmax:max 0 ((e:Int)-4)=(lo:Int):=ae;have hlo2:lo<=e:=ae;have HL:=ai hlo;have HO:=ai hown;clear hlo hown;go_wp2;go_loop [5,6] (fun n i=>∃ (k M:Nat),lo<=k/\k<=e/\i = .int .i64 k/\n = .int .i64 M/\M<10000/\Hid (M=eE s lo k)) (fun _ i=>e-(intOf i).toNat)
   case atStart=>exact ⟨lo,0,Nat.le_refl _,hlo2,rfl,rfl,ae,ai (cC s lo).symm⟩
   case round =>
    obtain ⟨k,M,hk1,hk2,rfl,rfl,hM,HM⟩:=hrel;by_cases hk:k<e
    ·have hks:k<s.size:=ae;obtain ⟨_,d1,d2⟩:=HD.o k (Nat.zero_le _) hks;have hst:=eC s lo k hk1 hks;have hb:M<1000:=by
      rw [HM.o];have h1:=lW s lo s.size k (fun i a b=>HD.o i (Nat.zero_le _) b) hk1 ae;have h2:10 ^ (k-lo)<=10 ^ 3:=Nat.pow_le_pow_right af (by have:=HL.o;omega);exact Nat.lt_of_lt_of_le h1 h2
     have HST:=ai hst;clear hst;go_wp2;go_round
     case rel=>exact ⟨k+1,10*M+(s[k].toNat-48),ae,ae,by go_num,by simp only [Value.int.injEq,true_and];omega,ae,ai (by rw [HST.o,HM.o])⟩
     case measure=>simp [intOf];omega
    ·obtain rfl:k=e:=ae;have HST:=ai ((show jj s N k P by have:=hinv.out;simpa using this).step he HL.o HD.o);go_wp2_with (at_builtin;refine wpList_append_own (wr.alloc (.cells #[.int .i64 (M:Int)] 3)) rfl _ _ 85 rfl w.heap.size 3 i0 (.int .i64 0) 1 8 Tryz.underlying85 hi hz0 hz1 hz2 rfl af _ P.length _ rfl (HO.o.alloc _) ⟨wr.heap.size,0,none⟩ 1 1 [.int .i64 (M:Int)] rfl rfl (jH wr M _) (by intro u hu;simp at hu;subst hu;rfl) (by unfold maxLen;omega) ae (by have:=hx.size;simp;omega) ?_;intro v' w1 hown1 hgrow1 hv1);go_roundw
     case rel =>
      refine ⟨(k:Int)-4,P ++ [M],rfl,ae,ae,ai (by rw [HM.o,show ((k:Int)-4).toNat=lo by have:=HL.o;omega];exact HST.o),?_,?_⟩
      ·rw [List.length_append,List.map_append];exact hown1
      ·exact (hx.alloc _).grown hgrow1 (fun g hg=>dx HO.o g hg)
     case measure=>simp [intOf];omega
  ·have hval:=hinv.out.val;rw [show Z.toNat=0 by omega,cC,Nat.mul_zero,Nat.add_zero] at hval;have HV:=ai hval;have HH:=ai (Holds.cJ hown);clear hval hown;go_wp2_with (go_at_call 222;refine (pU P _ _ HH.o hinv.out.lt).mono ?_;rintro e w' ⟨v',rfl,rfl,hm,_⟩);go_ret;exact ⟨_,rfl,hx,by rw [HV.o] at hm;exact hm⟩
def k8 (x:Nat):List UInt8:=List.replicate (4-(Lib.decDigits x).length) 48 ++ Lib.decDigits x
theorem xe {x:Nat} (h:x<10000):(Lib.decDigits x).length<=4:=bU (k:=4) af ae
theorem fS {x:Nat} (h:x<10000):(k8 x).length=4:=by
 unfold k8;have:=xe h;simp;omega
theorem zX (x:Nat):val (k8 x)=x:=by unfold k8;rw [o6,dp]
theorem xU (x:Nat):∀ b ∈ k8 x,cX b=true:=by
 intro b hb;rcases List.mem_append.1 hb with hb|hb
 ·rw [(List.mem_replicate.1 hb).2];decide
 ·exact bC _ _ hb
theorem pS {m x:Nat} (hm:m≠0) (hx:x<10000):Lib.decDigits (x+10000*m)=Lib.decDigits m ++ k8 x:=by
 have hv:val (Lib.decDigits m ++ k8 x)=x+10000*m:=by
  rw [cB,zX,fS hx,dp];omega
 rw [← hv];obtain ⟨b,t,e,hb⟩:=gy m hm;refine dV _ (by simp [fM]) (fun b hb=>?_) (Or.inl ?_)
 ·rcases List.mem_append.1 hb with h|h
  ·exact bC _ _ h
  ·exact xU _ _ h
 ·rw [e];simp [hb]
theorem D0 {x:Nat} (hx:x<10000):zs (10000+(x:Int))=⟨(49 :: k8 x).toArray⟩/\(zs (10000+(x:Int))).size=5/\(zs (10000+(x:Int))).extract 1 5=⟨(k8 x).toArray⟩:=by
 have e:zs (10000+(x:Int))=⟨(49 :: k8 x).toArray⟩:=by
  unfold zs;rw [show (10000+(x:Int))=((x+10000*1:Nat):Int) by omega,cY,pS af hx,kD];rfl
 refine ⟨e,by rw [e];simp [ByteArray.size,fS hx],?_⟩;rw [e];apply cg;rw [ek];show (k8 x).take (5-1)=k8 x;exact List.take_of_length_le (by rw [fS hx];omega)
def mW (L:List Nat) (k:Nat):List UInt8:=Lib.decDigits (mv 10000 (L.drop (L.length-k)))
theorem xz (L:List Nat):mW L L.length=Lib.decDigits (mv 10000 L):=by
 unfold mW;rw [Nat.sub_self,List.drop_zero]
theorem tP {L:List Nat} {i:Nat} (hi:i<L.length) (h:i=L.length-1):mW L 1=Lib.decDigits (L[i]?.getD 0):=by
 unfold mW;rw [show L.length-1=i by omega,List.drop_eq_getElem_cons hi,List.drop_eq_nil_of_le ae,dz];simp [hi]
theorem xy {L:List Nat} {i k:Nat} (hL:Canon 10000 L) (hk:k≠0) (hi:i<L.length) (h:i=L.length-1-k) (hkl:k<L.length):mW L (k+1)=mW L k ++ k8 (L[i]?.getD 0):=by
 unfold mW;rw [show L.length-(k+1)=i by omega,List.drop_eq_getElem_cons hi,show i+1=L.length-k by omega];have hc:=hL.drop (L.length-k);have hpos:=hc.pos af (by intro e;have:=congrArg List.length e;simp at this;omega);rw [show L[i]?.getD 0=L[i] by simp [hi],← pS ae (hL.lt _ (List.getElem_mem hi))];rfl
theorem y3 {L:List Nat} (hL:aG 10000 L) (k:Nat) (hk:k<=L.length) (h0:0<k):(mW L k).length<=4*k:=by
 unfold mW;refine bU ae ?_;have:=jq (B:=10000) (l:=L.drop (L.length-k)) (fun x hx=>hL x (List.mem_of_mem_drop hx));rw [List.length_drop,show L.length-(L.length-k)=k by omega] at this;rwa [Nat.pow_mul]
theorem yA (x y:List UInt8):(⟨x.toArray⟩:ByteArray) ++ ⟨y.toArray⟩=⟨(x ++ y).toArray⟩:=by
 apply cg;rw [ByteArray.data_append,Array.toList_append]
set_option maxHeartbeats 1000000 in
theorem yh (ad:Option Addr) (c:Nat) (w:World):Calls Tryz.prog 223 #[.slice ad 0 c] w (aC w (.string (zs 0))):=by
 rw [p8];go_enter Tryz.func223,Tryz.ntmps223;go_wp2;go_ret;exact ⟨rfl,Ext.refl _⟩
theorem AH (N:Nat) (ad:Option Addr) (n c:Nat) (w:World) (hm:cU w (.slice ad n c) N) (hn0:0<n) (hn:n<=6000) (g:Gd w) :
    Calls Tryz.prog 223 #[.slice ad n c] w (aC w (.string (zs (N:Int)))):=by
 obtain ⟨L,hL,cL,hLv⟩:=hm;obtain ⟨ad',ca,ba,oa,heq,h1a,hca,hba,hCa⟩:=hL;simp only [Value.slice.injEq] at heq;obtain ⟨rfl,hnl,rfl⟩:=heq;have HN:=ai hnl;have HLV:=ai hLv;have HC:=ai cL;rw [← hnl] at h1a hba hCa;obtain ⟨rfl,hbs⟩:=hba hn0;have H2:=ai hCa;have HG:=ai g;obtain ⟨j,rfl⟩:∃ j,n=j+1:=⟨n-1,ae⟩
 obtain ⟨x,hx⟩:∃ x,x=L[j]?.getD 0:=⟨_,rfl⟩
 have hxlt:x<10000:=by rw [hx];exact aV af cL.lt j
 have hc0:w.cell? ⟨ba,oa+j,none⟩=some (.int .i64 (x:Int)):=by rw [hx];exact hCa j ae
 have HX:=ai hx;have ej:((j+1:Nat):Int)-1=(j:Int):=ae;clear hnl hLv hCa cL g hba hx hn0;go_enter Tryz.func223,Tryz.ntmps223;go_wp2_with (go_at_call 193;refine cto (gg (x:Int) ae ae _ HG.o) fun w1 e1=>?_);clear ej hc0;go_loopw [3,4] (fun out i W=>∃ k:Nat,1<=k/\k<=j+1/\i = .int .i64 ((j:Int)-k)/\(∃ o:ByteArray,out = .string o/\o.size<=24000/\Hid (o=⟨(mW L k).toArray⟩))/\Ext w W) (fun _ i _=>(intOf i+1).toNat)
 case atStart =>
  refine ⟨1,Nat.le_refl _,ae,by congr 1;omega,⟨zs (x:Int),rfl,by rw [a8];have:=xe hxlt;omega,ai ?_⟩,e1⟩;rw [tP (by rw [← HN.o];exact Nat.lt_succ_self j) (by rw [← HN.o];rfl),← HX.o];unfold zs;rw [cY]
 case round =>
  obtain ⟨k,hk1,hk2,rfl,⟨o,rfl,ho,HO⟩,hx⟩:=hrel;by_cases hk:k<=j
  ·obtain ⟨i,hi⟩:∃ i,i=j-k:=⟨_,rfl⟩
   have ei:(j:Int)-k=(i:Int):=ae;rw [ei];obtain ⟨y,hy⟩:∃ y,y=L[i]?.getD 0:=⟨_,rfl⟩
   have hylt:y<10000:=by rw [hy];exact aV af HC.o.lt i
   have hc0:wr.cell? ⟨ba,oa+i,none⟩=some (.int .i64 (y:Int)):=by rw [hy];exact (hx.cell (p:=⟨ba,oa+i,none⟩) hbs).trans (H2.o i ae)
   have hi2:i<j+1:=ae;obtain ⟨_,z2,z3⟩:=D0 hylt;obtain ⟨zz,hzz⟩:∃ zz,zz=zs (10000+(y:Int)):=⟨_,rfl⟩
   rw [← hzz] at z2 z3;have HZ:=ai hzz;have Z3:=ai z3;have HY:=ai hy;have HI:=ai hi;have z3s:(zz.extract 1 5).size=4:=by rw [z3];simp [ByteArray.size,fS hylt]
   have Z3S:=ai z3s;have hk1':(1:Int)<=(zz.size:Int):=ae;have HO4:Hid (o ++ zz.extract 1 5=⟨(mW L (k+1)).toArray⟩):=ai (by
    rw [HO.o,z3,yA,xy HC.o ae (by rw [← HN.o];omega) (by rw [← HN.o];omega) (by rw [← HN.o];omega),hy])
   clear ei hzz z3 hy hi z3s;go_wp2_with (go_at_call 193;refine (gg (10000+(y:Int)) ae ae _ (HG.o.ext hx)).mono ?_;rw [← HZ.o];rintro e w2 ⟨rfl,e2⟩);go_roundw
   case rel =>
    refine ⟨k+1,ae,ae,by have:=HI.o;congr 1;omega,⟨_,rfl,?_,HO4⟩,hx.trans e2⟩;rw [HO4.o];have:=y3 HC.o.lt (k+1) (by rw [← HN.o];omega) ae;simp [ByteArray.size];omega
   case measure=>(simp [intOf]);try (have:=HI.o;omega)
  ·obtain rfl:k=j+1:=ae;have E:Hid (o=zs (N:Int)):=ai (by rw [HO.o,HN.o,xz,HLV.o];unfold zs;rw [cY]);have hneg:¬ (0:Int)<=(j:Int)-((j+1:Nat):Int):=ae;go_wp2;go_ret;exact ⟨bY E.out,hx⟩
theorem cU.ld {w:World} {ad:Option Addr} {n c N:Nat} (h:cU w (.slice ad n c) N) (f:eS N):n<=5000:=by
 obtain ⟨l,⟨ad',cap,b,off,hv,_⟩,hc,hm⟩:=h;simp only [Value.slice.injEq] at hv;rw [hv.2.1];exact f.len hc hm
theorem uM (N:Nat) (ad:Option Addr) (n c:Nat) (w:World) (hm:cU w (.slice ad n c) N) (f:eS N) (g:Gd w) :
    Calls Tryz.prog 223 #[.slice ad n c] w (aC w (.string (zs (N:Int)))):=by
 have hn:=hm.ld f;by_cases h0:n=0
 ·subst h0;have:=hm.dd.1 rfl;subst this;exact yh ad c w
 ·exact AH N ad n c w hm ae ae g
set_option maxHeartbeats 1000000 in
theorem bE (s:Bool) (N0:Nat) (v:Value) (w:World) (hm:cU w v N0) (f:eS N0) (g:Gd w) :
    Calls Tryz.prog 151 #[.bool s,v] w (aC w (.string (zs (ep s N0)))):=by
 obtain ⟨L,hL,cL,rfl⟩:=hm;have hcut:=pU L v w hL cL.lt;obtain ⟨N,hN⟩:∃ N,N=mv 10000 L:=⟨_,rfl⟩
 unfold tB at hcut;rw [← hN] at hcut f ⊢;have HC:=ai hcut;have HF:=ai f;have HG:=ai g;obtain ⟨ad,nn,cc,rfl⟩:∃ ad nn cc,v = .slice ad nn cc:=by obtain ⟨ad,cap,b,off,hv,_⟩:=hL;exact ⟨_,_,_,hv⟩
 clear hcut f g hL cL hN;by_cases h0:N=0
 ·have H0:Hid (ep s N=(N:Int)):=ai (by subst h0;exact rW s);have H1:=ai h0;clear h0;cases s
  all_goals
   go_enter Tryz.func151,Tryz.ntmps151;go_wp2_with (first
    | (go_at_call 222;refine HC.o.mono ?_;rintro e w' ⟨v',rfl,rfl,hm,_,_,k,cap,_,rfl⟩;have hk0:k=0:=hm.dd.2 H1.o;subst hk0)
    | (go_at_call 223;refine cto (uM N _ _ _ _ hm HF.o HG.o) fun w1 e1=>?_))
   go_ret;exact ⟨a6 H0.o.symm,e1⟩
 ·cases s
  ·have H0:Hid (ep false N=(N:Int)):=ai rfl;go_enter Tryz.func151,Tryz.ntmps151;go_wp2_with (first
    | (go_at_call 222;refine HC.o.mono ?_;rintro e w' ⟨v',rfl,rfl,hm,_,_,k,cap,_,rfl⟩)
    | (go_at_call 223;refine cto (uM N _ _ _ _ hm HF.o HG.o) fun w1 e1=>?_))
   go_ret;exact ⟨a6 H0.o.symm,e1⟩
  ·have H0:Hid ((⟨#[45]⟩:ByteArray) ++ zs (N:Int)=zs (ep true N)):=ai (jt ae);have hsz:(zs (N:Int)).size<=30000:=by
    rw [a8];refine Nat.le_trans (bU (k:=20000) af ?_) af;have:=HF.o.out;rwa [show (10000:Nat)=10 ^ 4 by decide,← Nat.pow_mul,show 4*yt=20000 by decide] at this
   have H1:=ai h0;clear h0;go_enter Tryz.func151,Tryz.ntmps151;go_wp2_with (first
    | (go_at_call 222;refine HC.o.mono ?_;rintro e w' ⟨v',rfl,rfl,hm,_,_,k,cap,_,rfl⟩;have hk0:0<k:=by rcases Nat.eq_zero_or_pos k with h|h;(exact absurd (hm.dd.1 h) H1.o);exact h)
    | (go_at_call 223;refine cto (uM N _ _ _ _ hm HF.o HG.o) fun w1 e1=>?_))
   go_ret;exact ⟨bY H0.o,e1⟩
def iC:List Int->Int
 | []=>0
 | x :: t=>x+10000*iC t
theorem uJ (l m:List Int):iC (l ++ m)=iC l+10000 ^ l.length*iC m:=by
 induction l with
 | nil=>simp [iC]
 | cons x t ih =>
  simp only [List.cons_append,iC,ih,List.length_cons];rw [Int.pow_succ,Int.mul_add,← Int.mul_assoc,Int.mul_comm 10000 (10000 ^ t.length),Int.add_assoc]
theorem sG (l:List Int) (x:Int):iC (l ++ [x])=iC l+10000 ^ l.length*x:=by
 rw [uJ];simp [iC]
theorem mn (l:List Nat):iC (l.map Int.ofNat)=(mv 10000 l:Int):=by
 induction l with
 | nil=>rfl
 | cons x t ih=>simp only [List.map_cons,iC,ih,mv];simp
theorem oS (l:List Int) (i:Nat) (h:i<l.length):iC (l.take (i+1))=iC (l.take i)+10000 ^ i*l[i]:=by
 rw [List.take_succ_eq_append_getElem h,sG,List.length_take,Nat.min_eq_left (Nat.le_of_lt h)]
def gi (w:World) (v:Value) (l:List Int):Prop :=
 ∃ (ad:Option Addr) (cap b off:Nat),v = .slice ad l.length cap/\l.length<=cap/\cap<=9223372036854775807/\(0<l.length->ad=some ⟨b,off,none⟩/\b<w.heap.size) /\
  ∀ i,i<l.length->w.cell? ⟨b,off+i,none⟩=some (.int .i64 (l.getD i 0))
theorem gi.ext {w w':World} {v:Value} {l:List Int} (h:gi w v l) (e:Ext w w'):gi w' v l:=by
 obtain ⟨ad,cap,b,off,hv,h1,h2,h3,h4⟩:=h;refine ⟨ad,cap,b,off,hv,h1,h2,fun h0=>⟨(h3 h0).1,Nat.lt_of_lt_of_le (h3 h0).2 e.size⟩,fun i hi=>(e.cell (h3 ae).2).trans (h4 i hi)⟩
theorem gi.cJ {w:World} {base e n:Nat} {v:Value} {l:List Int} (h:w.ownsRow base e 1 v n (l.map (Value.int .i64))):gi w v l:=by
 have hlen:l.length=n:=by have:=h.1;simpa using this
 rcases h.2 with ⟨rfl,h0⟩|⟨g,cap,cur,rfl,hg,hh,h1,h2,h3,h4⟩
 ·obtain rfl:l=[]:=List.length_eq_zero_iff.1 ae;exact ⟨none,0,0,0,rfl,by simp,ae,fun h=>by simp at h,fun i h=>by simp at h⟩
 ·refine ⟨some ⟨g,0,none⟩,cap,g,0,by rw [hlen],ae,h2,fun _=>⟨rfl,(Array.getElem?_eq_some_iff.1 hh).1⟩,fun i hi=>?_⟩;have:=h.cellAt i ae;rw [Nat.zero_add,this];simp [hi]
theorem ia {l:List Int} {k:Nat} (h:k<l.length):l.getD k 0=l[k]:=by simp [h]
theorem sh (n:Nat):(0:Int)<10000 ^ n:=Int.pow_pos af
structure gj (xs:List Int) (k:Nat) (ov:Int) (P:List Nat):Prop where
 len:P.length=k
 lt:aG 10000 P
 val:(mv 10000 P:Int)+10000 ^ k*ov=iC (xs.take k)
theorem yd {P:List Nat} (h:aG 10000 P):(mv 10000 P:Int)<10000 ^ P.length:=by
 have:=jq h;have e:((10000 ^ P.length:Nat):Int)=(10000:Int) ^ P.length:=by rw [Int.natCast_pow];rfl
 rw [← e];omega
theorem gj.EN {xs:List Int} {k:Nat} {ov:Int} {P:List Nat} (h:gj xs k ov P) (hk:xs.length<=k) (h0:0<=iC xs):0<=ov:=by
 have hv:=h.val;rw [List.take_of_length_le hk] at hv;have hl:=yd h.lt;rw [h.len] at hl;rcases Int.lt_or_le ov 0 with hn|hn
 ·exfalso;have:(10000:Int) ^ k*ov<=10000 ^ k*(-1):=Int.mul_le_mul_of_nonneg_left ae (Int.le_of_lt (sh k));rw [Int.mul_neg,Int.mul_one] at this;omega
 ·exact hn
theorem gj.room {xs:List Int} {k:Nat} {ov:Int} {P:List Nat} (h:gj xs k ov P) (hk:xs.length<=k) (hov:0<ov) (f:eS (iC xs).toNat) (h0:0<=iC xs):k<yt:=by
 have hv:=h.val;rw [List.take_of_length_le hk] at hv;have h1:(10000:Int) ^ k*1<=10000 ^ k*ov:=Int.mul_le_mul_of_nonneg_left ae (Int.le_of_lt (sh k));have h2:((10000 ^ k:Nat):Int)<=iC xs:=by
  rw [Int.natCast_pow,← hv];rw [Int.mul_one] at h1;have:((10000:Nat):Int)=10000:=rfl;rw [this];omega
 have h3:10000 ^ k<10000 ^ yt:=by have:=f.out;omega
 exact (Nat.pow_lt_pow_iff_right af).1 h3
theorem mX (t:Int):((t.tmod 10000<0/\t.tmod 10000+10000=t % 10000/\(t-(t.tmod 10000+10000)).tdiv 10000=t / 10000)∨(0<=t.tmod 10000/\t.tmod 10000=t % 10000/\(t-t.tmod 10000).tdiv 10000=t / 10000))/\-9999<=t.tmod 10000/\t.tmod 10000<=9999:=by
 have h1:=Int.tmod_lt_of_pos t (show (0:Int)<10000 by decide);have h2:=Int.lt_tmod_of_pos t (show (0:Int)<10000 by decide);have h3:=Int.mul_tdiv_add_tmod t 10000;have hd:=Int.mul_ediv_add_emod t 10000;have he:=Int.emod_nonneg t (show (10000:Int)≠0 by decide);have he2:=Int.emod_lt_of_pos t (show (0:Int)<10000 by decide);refine ⟨?_,ae,ae⟩;rcases Int.lt_or_le (t.tmod 10000) 0 with h|h
 ·refine Or.inl ⟨h,ae,?_⟩;have:t-(t.tmod 10000+10000)=(t / 10000)*10000:=ae;rw [this,Int.mul_tdiv_cancel _ af]
 ·refine Or.inr ⟨h,ae,?_⟩;have:t-t.tmod 10000=(t / 10000)*10000:=ae;rw [this,Int.mul_tdiv_cancel _ af]
theorem gj.step {xs:List Int} {k:Nat} {ov t:Int} {P:List Nat} (h:gj xs k ov P) (ht:10000 ^ k*t=10000 ^ k*ov+(iC (xs.take (k+1))-iC (xs.take k))):gj xs (k+1) (t / 10000) (P ++ [(t % 10000).toNat]):=by
 have he:=Int.emod_nonneg t (show (10000:Int)≠0 by decide);have he2:=Int.emod_lt_of_pos t (show (0:Int)<10000 by decide);have hd:=Int.mul_ediv_add_emod t 10000;refine ⟨by simp [h.len],?_,?_⟩
 ·intro x hx;rcases List.mem_append.1 hx with hx|hx
  ·exact h.lt x hx
  ·simp only [List.mem_singleton] at hx;omega
 ·rw [eK,h.len];have e:((mv 10000 P+10000 ^ k*(t % 10000).toNat:Nat):Int)=(mv 10000 P:Int)+10000 ^ k*(t % 10000):=by
   rw [Int.natCast_add,Int.natCast_mul,Int.natCast_pow,Int.toNat_of_nonneg he];rfl
  rw [e,Int.pow_succ,Int.mul_assoc,Int.add_assoc,← Int.mul_add,Int.add_comm (t % 10000),hd,ht];have:=h.val;omega
set_option maxHeartbeats 4000000 in
theorem rB (xs:List Int) (v:Value) (w:World) (h:gi w v xs) (hb:∀ x ∈ xs,-1000000000000000<=x/\x<=1000000000000000) (hl:xs.length<=20000) (h0:0<=iC xs) (f:eS (iC xs).toNat) :
    Calls Tryz.prog 224 #[v] w (xp w (iC xs).toNat):=by
 obtain ⟨i0,hi,hz0,hz1,hz2⟩:=info_parts Tryz.kt;obtain ⟨n,hn⟩:∃ n,n=xs.length:=⟨_,rfl⟩
 obtain ⟨ad,cap,b,off,rfl,h1,hc,hbk,hC⟩:=h;rw [← hn] at h1 hbk hC hl ⊢;have HN:=ai hn;have HB:=ai hb;have H1:=ai hbk;have H2:=ai hC;have H0:=ai h0;have HF:=ai f;clear hn hb hbk hC h0 f;go_enter Tryz.func224,Tryz.ntmps224;go_wp2
 go_loopw [3, 4, 5] (fun out over i W => ∃ (k : Nat) (ov : Int) (P : List Nat), i = .int .i64 k /\ over = .int .i64 ov /\ -2000000000000 <= ov /\ ov <= 2000000000000 /\ k <= 30000 /\ Hid (gj xs k ov P) /\
     W.ownsRow w.heap.size 3 1 out k (P.map fun (x:Nat)=>Value.int .i64 x)/\Ext w W)
  (fun _ over i _=>(n-(intOf i).toNat)*10000000000000000+(intOf over).natAbs)
 case atStart=>exact ⟨0,0,[],rfl,rfl,ae,ae,ae,ai ⟨rfl,fun x hx=>by simp at hx,by simp [mv,iC]⟩,⟨rfl,Or.inl ⟨rfl,rfl⟩⟩,Ext.refl _⟩
 case round =>
  obtain ⟨k,ov,P,rfl,rfl,hv1,hv2,hk3,hinv,hown,hx⟩:=hrel;obtain ⟨oa,on,oc,rfl⟩:=nF hown;have HO:=ai hown;clear hown;by_cases hk:k<n
  ·obtain ⟨x,hxx⟩:∃ x,x=xs.getD k 0:=⟨_,rfl⟩
   have hx1:-1000000000000000<=x/\x<=1000000000000000:=by
    rw [hxx,ia (by rw [← HN.o];exact hk)];exact HB.o _ (List.getElem_mem _)
   obtain ⟨hx1,hx2⟩:=hx1;have hcell:wr.cell? ⟨b,off+k,none⟩=some (.int .i64 x):=by rw [hxx];exact (hx.cell (p:=⟨b,off+k,none⟩) (H1.o ae).2).trans (H2.o k hk)
   have hix:=bS 85 3 Tryz.underlying85 Tryz.iT (cap:=cap) (fun h=>(H1.o h).1) k hk;obtain ⟨hcs,ht1,ht2⟩:=mX (ov+x);obtain ⟨t,ht⟩:∃ t,t=ov+x:=⟨_,rfl⟩
   have hkk:k<xs.length:=by rw [← HN.o];exact hk
   have HST:=ai (hinv.out.step (t:=t) (by
    rw [oS xs k hkk,ht,Int.mul_add,hxx,ia hkk];omega))
   have HT:=ai ht;rw [← ht] at hcs ht1 ht2;have tb1:-1002000000000000<=t:=ae;have tb2:t<=1002000000000000:=ae;have hq:=Int.mul_ediv_add_emod t 10000;have he:=Int.emod_nonneg t (show (10000:Int)≠0 by decide);have he2:=Int.emod_lt_of_pos t (show (0:Int)<10000 by decide);have Q1:Hid (-100200000001<=t / 10000/\t / 10000<=100200000000):=ai ae;have E0:=ai (And.intro he he2);have htt:ov+x=t:=ht.symm;clear hxx ht hq he he2 hkk HT;obtain ⟨q,hqq⟩:∃ q,q=t / 10000:=⟨_,rfl⟩
   obtain ⟨D,hDD⟩:∃ D:Nat,(D:Int)=t % 10000:=⟨(t % 10000).toNat,Int.toNat_of_nonneg E0.out.1⟩
   have hD1:(D:Int)<=9999:=by have:=E0.out.2;omega
   have hq1:-100200000001<=q:=by rw [hqq];exact Q1.out.1
   have hq2:q<=100200000000:=by rw [hqq];exact Q1.out.2
   have HQ:=ai hqq;have HDD:=ai hDD;have HS2:Hid (gj xs (k+1) q (P ++ [D])):=ai (by have:=HST.o;rw [← hDD,Int.toNat_natCast,← hqq] at this;exact this);rw [← hqq,← hDD] at hcs;clear hqq hDD;rcases hcs with ⟨c1,c2,c3⟩|⟨c1,c2,c3⟩
   ·obtain ⟨n0,hn0⟩:∃ n0,t.tmod 10000=n0:=⟨_,rfl⟩
    rw [hn0] at c1 c2 ht1 ht2;rw [hn0,c2] at c3;go_wp2_with (at_builtin;refine wpList_append_own (wr.alloc (.cells #[.int .i64 (D:Int)] 3)) rfl _ _ 85 rfl w.heap.size 3 i0 (.int .i64 0) 1 8 Tryz.underlying85 hi hz0 hz1 hz2 rfl af _ k _ rfl (HO.o.alloc _) ⟨wr.heap.size,0,none⟩ 1 1 [.int .i64 (D:Int)] rfl rfl (jH wr D _) (by intro u hu;simp at hu;subst hu;rfl) (by unfold maxLen;omega) ae (by have:=hx.size;simp;omega) ?_;intro v' w1 hown1 hgrow1 hv1);go_roundw
    case rel=>exact ⟨k+1,q,P ++ [D],by go_num,rfl,ae,ae,ae,HS2,by rw [List.map_append];exact hown1,(hx.alloc _).grown hgrow1 (fun g hg=>dx HO.o g hg)⟩
    case measure=>simp [intOf];omega
   ·rw [c2] at c1 ht1 ht2;rw [c2] at c3;go_wp2_with (at_builtin;refine wpList_append_own (wr.alloc (.cells #[.int .i64 (D:Int)] 3)) rfl _ _ 85 rfl w.heap.size 3 i0 (.int .i64 0) 1 8 Tryz.underlying85 hi hz0 hz1 hz2 rfl af _ k _ rfl (HO.o.alloc _) ⟨wr.heap.size,0,none⟩ 1 1 [.int .i64 (D:Int)] rfl rfl (jH wr D _) (by intro u hu;simp at hu;subst hu;rfl) (by unfold maxLen;omega) ae (by have:=hx.size;simp;omega) ?_;intro v' w1 hown1 hgrow1 hv1);go_roundw
    case rel=>exact ⟨k+1,q,P ++ [D],by go_num,rfl,ae,ae,ae,HS2,by rw [List.map_append];exact hown1,(hx.alloc _).grown hgrow1 (fun g hg=>dx HO.o g hg)⟩
    case measure=>simp [intOf];omega
  ·have hnk:xs.length<=k:=by rw [← HN.o];omega
   have hov:=hinv.out.EN hnk H0.o;by_cases hz:ov=0
   ·subst hz;have hval:=hinv.out.val;rw [Int.mul_zero,Int.add_zero,List.take_of_length_le hnk] at hval;have HV:Hid (mv 10000 P=(iC xs).toNat):=ai ae;have hlen:=hinv.out.len;subst hlen;have HH:=ai (Holds.cJ HO.o);clear hval hnk hov;go_wp2_with (go_at_call 222;refine (pU P _ _ HH.o hinv.out.lt).mono ?_;rintro e w' ⟨v',rfl,rfl,hm,_⟩);go_ret;exact ⟨_,rfl,hx,by rw [HV.o] at hm;exact hm⟩
   ·obtain ⟨hcs,ht1,ht2⟩:=mX ov;obtain ⟨t,ht⟩:∃ t,t=ov:=⟨_,rfl⟩
    subst ht;have hk5:k<yt:=hinv.out.room hnk ae HF.o H0.o;have hk6:k<5000:=hk5;have HST:=ai (hinv.out.step (t:=t) (by
     rw [List.take_of_length_le hnk,List.take_of_length_le ae];omega))
    have tb1:1<=t:=ae;have tb2:t<=2000000000000:=ae;have hq:=Int.mul_ediv_add_emod t 10000;have he:=Int.emod_nonneg t (show (10000:Int)≠0 by decide);have he2:=Int.emod_lt_of_pos t (show (0:Int)<10000 by decide);have Q1:Hid (-100200000001<=t / 10000/\t / 10000<=100200000000):=ai ae;have Q2:Hid ((t / 10000).natAbs<t.natAbs):=ai ae;have E0:=ai (And.intro he he2);clear hq he he2 hnk hov hk5;obtain ⟨q,hqq⟩:∃ q,q=t / 10000:=⟨_,rfl⟩
    obtain ⟨D,hDD⟩:∃ D:Nat,(D:Int)=t % 10000:=⟨(t % 10000).toNat,Int.toNat_of_nonneg E0.out.1⟩
    have hD1:(D:Int)<=9999:=by have:=E0.out.2;omega
    have hq1:-100200000001<=q:=by rw [hqq];exact Q1.out.1
    have hq2:q<=100200000000:=by rw [hqq];exact Q1.out.2
    have HQ:=ai hqq;have HDD:=ai hDD;have HS2:Hid (gj xs (k+1) q (P ++ [D])):=ai (by have:=HST.o;rw [← hDD,Int.toNat_natCast,← hqq] at this;exact this);rw [← hqq,← hDD] at hcs;clear hqq hDD;rcases hcs with ⟨c1,c2,c3⟩|⟨c1,c2,c3⟩
    ·obtain ⟨n0,hn0⟩:∃ n0,t.tmod 10000=n0:=⟨_,rfl⟩
     rw [hn0] at c1 c2 ht1 ht2;rw [hn0,c2] at c3;go_wp2_with (at_builtin;refine wpList_append_own (wr.alloc (.cells #[.int .i64 (D:Int)] 3)) rfl _ _ 85 rfl w.heap.size 3 i0 (.int .i64 0) 1 8 Tryz.underlying85 hi hz0 hz1 hz2 rfl af _ k _ rfl (HO.o.alloc _) ⟨wr.heap.size,0,none⟩ 1 1 [.int .i64 (D:Int)] rfl rfl (jH wr D _) (by intro u hu;simp at hu;subst hu;rfl) (by unfold maxLen;omega) ae (by have:=hx.size;simp;omega) ?_;intro v' w1 hown1 hgrow1 hv1);go_roundw
     case rel=>exact ⟨k+1,q,P ++ [D],by go_num,rfl,ae,ae,ae,HS2,by rw [List.map_append];exact hown1,(hx.alloc _).grown hgrow1 (fun g hg=>dx HO.o g hg)⟩
     case measure=>simp [intOf];have:=Q2.out;rw [← HQ.o] at this;omega
    ·rw [c2] at c1 ht1 ht2;rw [c2] at c3;go_wp2_with (at_builtin;refine wpList_append_own (wr.alloc (.cells #[.int .i64 (D:Int)] 3)) rfl _ _ 85 rfl w.heap.size 3 i0 (.int .i64 0) 1 8 Tryz.underlying85 hi hz0 hz1 hz2 rfl af _ k _ rfl (HO.o.alloc _) ⟨wr.heap.size,0,none⟩ 1 1 [.int .i64 (D:Int)] rfl rfl (jH wr D _) (by intro u hu;simp at hu;subst hu;rfl) (by unfold maxLen;omega) ae (by have:=hx.size;simp;omega) ?_;intro v' w1 hown1 hgrow1 hv1);go_roundw
     case rel=>exact ⟨k+1,q,P ++ [D],by go_num,rfl,ae,ae,ae,HS2,by rw [List.map_append];exact hown1,(hx.alloc _).grown hgrow1 (fun g hg=>dx HO.o g hg)⟩
     case measure=>simp [intOf];have:=Q2.out;rw [← HQ.o] at this;omega
end Go.Proofs.YtmahadmefplbnaaGreatDoor
