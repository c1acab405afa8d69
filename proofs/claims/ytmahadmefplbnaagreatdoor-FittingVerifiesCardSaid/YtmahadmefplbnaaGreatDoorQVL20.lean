/- Part 20. -/
import Derived.Test.YtmahadmefplbnaaGreatDoorQVLB
import Derived.Test.YtmahadmefplbnaaGreatDoorQVL19
set_option maxRecDepth 100000
set_option maxHeartbeats 2000000
open Go.Proofs.Tryz
namespace Go.Proofs.YtmahadmefplbnaaGreatDoor
open Go Go.RowKit
theorem Fy(s:ByteArray)(lo e:Nat)(h:lo<=e)(he:e<=s.size):jt s 0 e=jt s 0 lo*10 ^ (e-lo)+jt s lo e:=by
 unfold jt;simp only[List.drop_zero,Nat.sub_zero];have hl:s.data.toList.length=s.size:=(iC s).symm;have e1:s.data.toList.take e=s.data.toList.take lo ++ (s.data.toList.drop lo).take (e-lo):=by
  rw[← List.take_append_drop lo (s.data.toList.take e),List.take_take,Nat.min_eq_left h,List.drop_take]
 rw[e1,eO];simp only[List.length_take,List.length_drop,hl];rw[Nat.min_eq_left ae]
structure pG(s:ByteArray)(V e:Nat)(P:List Nat):Prop where
 le:e<=s.size
 len:0<e->4*P.length+e=s.size
 room:4*P.length<=s.size+3
 lt:bK 10000 P
 val:mv 10000 P+10000 ^ P.length*jt s 0 e=V
theorem pG.step{s:ByteArray}{V e lo:Nat}{P:List Nat}(h:pG s V e P)(h0:0<e)(QQ:lo=e-4)(hd:Ij s 0 s.size):pG s V lo (P ++ [jt s lo e]):=by
 have hl:=h.len h0;have hle:=h.le;refine⟨ae,?_,?_,?_,?_⟩
 ·intro h1;simp;omega
 ·simp;omega
 ·intro x hx;rcases List.mem_append.1 hx with hx|hx
  ·exact h.lt x hx
  ·simp only[List.mem_singleton] at hx;subst hx;have h1:=uk s lo s.size e (fun i a b=>hd i (Nat.zero_le _) b) ae h.le;have h2:10 ^ (e-lo)<=10 ^ 4:=Nat.pow_le_pow_right af ae;exact Nat.lt_of_lt_of_le h1 h2
 ·rw[jJ,← h.val,Fy s lo e ae h.le];by_cases h4:4<=e
  ·rw[show e-lo=4 by omega,show(10:Nat) ^ 4=10000 by decide,List.length_append,List.length_singleton,Nat.pow_succ];generalize 10000 ^ P.length=p;generalize jt s 0 lo=x;generalize jt s lo e=y;rw[Nat.mul_add,Nat.mul_assoc p,Nat.mul_comm x];omega
  ·obtain rfl:lo=0:=ae;rw[eP];simp
def JA(w:World)(n:Nat)(e:Ending)(w':World):Prop:=∃ v,e = .returned v/\Ext w w'/\fK w' v n
theorem qx(w:World)(c:Int)(T:TypeId):∀ j u,[Value.int .i64 c][j]?=some u->(w.alloc (.cells #[.int .i64 c] T)).cell? ((⟨w.heap.size,0,none⟩:Addr).add j)=some u:=by
 intro j u hu
 match j,hu with
 | 0,hu=>simp at hu;subst hu;rw[Addr.add_lit];exact(ay.new w #[.int .i64 c] T).cell 0 rfl
theorem vW{w:World}{B e n:Nat}{v:Value}{xs:List Value}(h:w.ownsRow B e 1 v n xs):∃ ad m c,v = .slice ad m c:=by
 rcases h.2 with⟨rfl,_⟩|⟨g,cap,cur,rfl,_⟩
 ·exact⟨_,_,_,rfl⟩
 ·exact⟨_,_,_,rfl⟩
theorem b6 (N:Nat) (w:World) (hN:(Lib.decDigits N).length<=20000) :
    Calls prog 153 #[.string (zs (N:Int))] w (JA w N):=by
 obtain⟨i0,hi,nI,mE,jh⟩:=info_parts rO;obtain⟨s,hs⟩:∃ s,s=zs (N:Int):=⟨_,rfl⟩
 rw[← hs];have tI:s.data.toList=[] ++ Lib.decDigits N ++ []:=by rw[hs,dA,fS];simp
 have hd:=oG tI (di _);have yZ:=rf tI;have gh:s.size=(Lib.decDigits N).length:=by rw[hs,cI]
 simp only[List.length_nil,Nat.zero_add] at hd yZ;rw[← gh] at hd yZ;rw[gB] at yZ;have SH:s.size<=20000:=ae;have HD:=ai hd;have HI0:Hid (pG s N s.size []):=ai ⟨Nat.le_refl _,fun _=>by simp,by simp,fun x hx=>by simp at hx,by rw[yZ];simp[mv]⟩;clear hs tI hd yZ gh hN;go_enter func153,ntmps153;go_wp2;go_loopw [3,4] (fun out z W=>∃ (Z:Int) (P:List Nat),z = .int .i64 Z/\-4<=Z/\Z<=20000/\Hid (pG s N Z.toNat P)/\W.ownsRow w.heap.size 3 1 out P.length (P.map fun(x:Nat)=>Value.int .i64 x)/\Ext w W)
  (fun _ z _=>(intOf z).toNat)
 case atStart=>exact⟨s.size,[],rfl,ae,ae,ai (by simpa using HI0.o),⟨rfl,Or.inl ⟨rfl,rfl⟩⟩,Ext.refl _⟩
 case round =>
  obtain⟨Z,P,rfl,hZ1,hZ2,hinv,cq,hx⟩:=hrel;obtain⟨oa,on,oc,rfl⟩:=vW cq;by_cases hZ:0<Z
  ·obtain⟨e,rfl⟩:∃ e:Nat,Z=e:=⟨Z.toNat,ae⟩
   have he:0<e:=ae;have hle:e<=s.size:=by have:=hinv.out.le;simpa using this
   have ou:P.length<=6000:=by have:=hinv.out.room;omega
   obtain⟨lo,QQ⟩:∃ lo,lo=e-4:=⟨_,rfl⟩
   have nh:max 0 ((e:Int)-4)=(lo:Int):=ae;have qbF:lo<=e:=ae;have HL:=ai QQ;have HO:=ai cq;clear QQ cq;go_wp2;go_loop [5,6] (fun n i=>∃ (k M:Nat),lo<=k/\k<=e/\i = .int .i64 k/\n = .int .i64 M/\M<10000/\Hid (M=jt s lo k)) (fun _ i=>e-(intOf i).toNat)
   case atStart=>exact⟨lo,0,Nat.le_refl _,qbF,rfl,rfl,ae,ai (eP s lo).symm⟩
   case round =>
    obtain⟨k,M,Uo,eY,rfl,rfl,hM,HM⟩:=hrel;by_cases hk:k<e
    ·have BX:k<s.size:=ae;obtain⟨_,d1,d2⟩:=HD.o k (Nat.zero_le _) BX;have jK:=js s lo k Uo BX;have hb:M<1000:=by
      rw[HM.o];have h1:=uk s lo s.size k (fun i a b=>HD.o i (Nat.zero_le _) b) Uo ae;have h2:10 ^ (k-lo)<=10 ^ 3:=Nat.pow_le_pow_right af (by have:=HL.o;omega);exact Nat.lt_of_lt_of_le h1 h2
     have kp:=ai jK;clear jK;go_wp2;go_round
     case rel=>exact⟨k+1,10*M+(s[k].toNat-48),ae,ae,by go_num,by simp only[Value.int.injEq,true_and];omega,ae,ai (by rw[kp.o,HM.o])⟩
     case measure=>simp[intOf];omega
    ·obtain rfl:k=e:=ae;have kp:=ai ((show pG s N k P by have:=hinv.out;simpa using this).step he HL.o HD.o);go_wp2_with (at_builtin;refine wpList_append_own (wr.alloc (.cells #[.int .i64 (M:Int)] 3)) rfl _ _ 85 rfl w.heap.size 3 i0 (.int .i64 0) 1 8 underlying85 hi nI mE jh rfl af _ P.length _ rfl (HO.o.alloc _) ⟨wr.heap.size,0,none⟩ 1 1 [.int .i64 (M:Int)] rfl rfl (qx wr M _) (by intro u hu;simp at hu;subst hu;rfl) (by unfold maxLen;omega) ae (by have:=hx.size;simp;omega) ?_;intro v' w1 dD cG Oa);go_roundw
     case rel =>
      refine⟨(k:Int)-4,P ++ [M],rfl,ae,ae,ai (by rw[HM.o,show((k:Int)-4).toNat=lo by have:=HL.o;omega];exact kp.o),?_,?_⟩
      ·rw[List.length_append,List.map_append];exact dD
      ·exact(hx.alloc _).grown cG (fun g hg=>gH HO.o g hg)
     case measure=>simp[intOf];omega
  ·have iR:=hinv.out.val;rw[show Z.toNat=0 by omega,eP,Nat.mul_zero,Nat.add_zero] at iR;have HV:=ai iR;have HH:=ai (Holds.fm cq);clear iR cq;go_wp2_with (go_at_call 222;refine(zv P _ _ HH.o hinv.out.lt).mono ?_;rintro e w' ⟨v',rfl,rfl,hm,_⟩);go_ret;exact⟨_,rfl,hx,by rw[HV.o] at hm;exact hm⟩
def sX(x:Nat):List UInt8:=List.replicate (4-(Lib.decDigits x).length) 48 ++ Lib.decDigits x
theorem Js{x:Nat}(h:x<10000):(Lib.decDigits x).length<=4:=dJ (k:=4) af ae
theorem lq{x:Nat}(h:x<10000):(sX x).length=4:=by
 unfold sX;have:=Js h;simp;omega
theorem Nv(x:Nat):val (sX x)=x:=by unfold sX;rw[yG,gB]
theorem KD(x:Nat):∀ b ∈ sX x,fN b=true:=by
 intro b hb;rcases List.mem_append.1 hb with hb|hb
 ·rw[(List.mem_replicate.1 hb).2];decide
 ·exact di _ _ hb
theorem zt{m x:Nat}(hm:m≠0)(hx:x<10000):Lib.decDigits (x+10000*m)=Lib.decDigits m ++ sX x:=by
 have hv:val (Lib.decDigits m ++ sX x)=x+10000*m:=by
  rw[eO,Nv,lq hx,gB];omega
 rw[← hv];obtain⟨b,t,e,hb⟩:=mm m hm;refine iG _ (by simp[kN]) (fun b hb=>?_) (Or.inl ?_)
 ·rcases List.mem_append.1 hb with h|h
  ·exact di _ _ h
  ·exact KD _ _ h
 ·rw[e];simp[hb]
theorem VZ{x:Nat}(hx:x<10000):zs (10000+(x:Int))=⟨(49 :: sX x).toArray⟩/\(zs (10000+(x:Int))).size=5/\(zs (10000+(x:Int))).extract 1 5=⟨(sX x).toArray⟩:=by
 have e:zs (10000+(x:Int))=⟨(49 :: sX x).toArray⟩:=by
  unfold zs;rw[show(10000+(x:Int))=((x+10000*1:Nat):Int) by omega,fS,zt af hx,sd];rfl
 refine⟨e,by rw[e];simp[ByteArray.size,lq hx],?_⟩;rw[e];apply dW;rw[iU];show(sX x).take (5-1)=sX x;exact List.take_of_length_le (by rw[lq hx];omega)
def vk(L:List Nat)(k:Nat):List UInt8:=Lib.decDigits (mv 10000 (L.drop (L.length-k)))
theorem Kb(L:List Nat):vk L L.length=Lib.decDigits (mv 10000 L):=by
 unfold vk;rw[Nat.sub_self,List.drop_zero]
theorem Fu{L:List Nat}{i:Nat}(hi:i<L.length)(h:i=L.length-1):vk L 1=Lib.decDigits (L[i]?.getD 0):=by
 unfold vk;rw[show L.length-1=i by omega,List.drop_eq_getElem_cons hi,List.drop_eq_nil_of_le ae,gP];simp[hi]
theorem Ka{L:List Nat}{i k:Nat}(hL:Canon 10000 L)(hk:k≠0)(hi:i<L.length)(h:i=L.length-1-k)(hkl:k<L.length):vk L (k+1)=vk L k ++ sX (L[i]?.getD 0):=by
 unfold vk;rw[show L.length-(k+1)=i by omega,List.drop_eq_getElem_cons hi,show i+1=L.length-k by omega];have hc:=hL.drop (L.length-k);have SJ:=hc.pos af (by intro e;have:=congrArg List.length e;simp at this;omega);rw[show L[i]?.getD 0=L[i] by simp[hi],← zt ae (hL.lt _ (List.getElem_mem hi))];rfl
theorem Mm{L:List Nat}(hL:bK 10000 L)(k:Nat)(hk:k<=L.length)(h0:0<k):(vk L k).length<=4*k:=by
 unfold vk;refine dJ ae ?_;have:=pX (B:=10000) (l:=L.drop (L.length-k)) (fun x hx=>hL x (List.mem_of_mem_drop hx));rw[List.length_drop,show L.length-(L.length-k)=k by omega] at this;rwa[Nat.pow_mul]
theorem Lp(x y:List UInt8):(⟨x.toArray⟩:ByteArray) ++ ⟨y.toArray⟩=⟨(x ++ y).toArray⟩:=by
 apply dW;rw[ByteArray.data_append,Array.toList_append]
set_option maxHeartbeats 1000000 in
theorem K6(ad:Option Addr)(c:Nat)(w:World):Calls prog 223 #[.slice ad 0 c] w (aZ w (.string (zs 0))):=by
 rw[zO];go_enter func223,ntmps223;go_wp2;go_ret;exact⟨rfl,Ext.refl _⟩
theorem OH (N:Nat) (ad:Option Addr) (n c:Nat) (w:World) (hm:fK w (.slice ad n c) N) (dX:0<n) (hn:n<=6000) (g:Gd w) :
    Calls prog 223 #[.slice ad n c] w (aZ w (.string (zs (N:Int)))):=by
 obtain⟨L,hL,cL,E9⟩:=hm;obtain⟨uM,ca,ba,oa,heq,XW,hca,y6,Fa⟩:=hL;simp only[Value.slice.injEq] at heq;obtain⟨rfl,Og,rfl⟩:=heq;have HN:=ai Og;have Qa:=ai E9;have HC:=ai cL;rw[← Og] at XW y6 Fa;obtain⟨rfl,ow⟩:=y6 dX;have H2:=ai Fa;have HG:=ai g;obtain⟨j,rfl⟩:∃ j,n=j+1:=⟨n-1,ae⟩
 obtain⟨x,hx⟩:∃ x,x=L[j]?.getD 0:=⟨_,rfl⟩
 have pQ:x<10000:=by rw[hx];exact cv af cL.lt j
 have I6:w.cell? ⟨ba,oa+j,none⟩=some (.int .i64 (x:Int)):=by rw[hx];exact Fa j ae
 have HX:=ai hx;have ej:((j+1:Nat):Int)-1=(j:Int):=ae;clear Og E9 Fa cL g y6 hx dX;go_enter func223,ntmps223;go_wp2_with (go_at_call 193;refine cto (lO (x:Int) ae ae _ HG.o) fun w1 e1=>?_);clear ej I6;go_loopw [3,4] (fun out i W=>∃ k:Nat,1<=k/\k<=j+1/\i = .int .i64 ((j:Int)-k)/\(∃ o:ByteArray,out = .string o/\o.size<=24000/\Hid (o=⟨(vk L k).toArray⟩))/\Ext w W) (fun _ i _=>(intOf i+1).toNat)
 case atStart =>
  refine⟨1,Nat.le_refl _,ae,by congr 1;omega,⟨zs (x:Int),rfl,by rw[cI];have:=Js pQ;omega,ai ?_⟩,e1⟩;rw[Fu (by rw[← HN.o];exact Nat.lt_succ_self j) (by rw[← HN.o];rfl),← HX.o];unfold zs;rw[fS]
 case round =>
  obtain⟨k,Uo,eY,rfl,⟨o,rfl,ho,HO⟩,hx⟩:=hrel;by_cases hk:k<=j
  ·obtain⟨i,hi⟩:∃ i,i=j-k:=⟨_,rfl⟩
   have ei:(j:Int)-k=(i:Int):=ae;rw[ei];obtain⟨y,hy⟩:∃ y,y=L[i]?.getD 0:=⟨_,rfl⟩
   have AQ:y<10000:=by rw[hy];exact cv af HC.o.lt i
   have I6:wr.cell? ⟨ba,oa+i,none⟩=some (.int .i64 (y:Int)):=by rw[hy];exact(hx.cell (p:=⟨ba,oa+i,none⟩) ow).trans (H2.o i ae)
   have hi2:i<j+1:=ae;obtain⟨_,z2,z3⟩:=VZ AQ;obtain⟨zz,hzz⟩:∃ zz,zz=zs (10000+(y:Int)):=⟨_,rfl⟩
   rw[← hzz] at z2 z3;have HZ:=ai hzz;have Z3:=ai z3;have HY:=ai hy;have HI:=ai hi;have z3s:(zz.extract 1 5).size=4:=by rw[z3];simp[ByteArray.size,lq AQ]
   have Z3S:=ai z3s;have qmE:(1:Int)<=(zz.size:Int):=ae;have HO4:Hid (o ++ zz.extract 1 5=⟨(vk L (k+1)).toArray⟩):=ai (by
    rw[HO.o,z3,Lp,Ka HC.o ae (by rw[← HN.o];omega) (by rw[← HN.o];omega) (by rw[← HN.o];omega),hy])
   clear ei hzz z3 hy hi z3s;go_wp2_with (go_at_call 193;refine(lO (10000+(y:Int)) ae ae _ (HG.o.ext hx)).mono ?_;rw[← HZ.o];rintro e w2 ⟨rfl,e2⟩);go_roundw
   case rel =>
    refine⟨k+1,ae,ae,by have:=HI.o;congr 1;omega,⟨_,rfl,?_,HO4⟩,hx.trans e2⟩;rw[HO4.o];have:=Mm HC.o.lt (k+1) (by rw[← HN.o];omega) ae;simp[ByteArray.size];omega
   case measure=>(simp[intOf]);try (have:=HI.o;omega)
  ·obtain rfl:k=j+1:=ae;have E:Hid (o=zs (N:Int)):=ai (by rw[HO.o,HN.o,Kb,Qa.o];unfold zs;rw[fS]);have AS:¬ (0:Int)<=(j:Int)-((j+1:Nat):Int):=ae;go_wp2;go_ret;exact⟨dH E.out,hx⟩
theorem fK.sZ{w:World}{ad:Option Addr}{n c N:Nat}(h:fK w (.slice ad n c) N)(f:jX N):n<=5000:=by
 obtain⟨l,⟨uM,cap,b,off,hv,_⟩,hc,hm⟩:=h;simp only[Value.slice.injEq] at hv;rw[hv.2.1];exact f.len hc hm
theorem GO (N:Nat) (ad:Option Addr) (n c:Nat) (w:World) (hm:fK w (.slice ad n c) N) (f:jX N) (g:Gd w) :
    Calls prog 223 #[.slice ad n c] w (aZ w (.string (zs (N:Int)))):=by
 have hn:=hm.sZ f;by_cases h0:n=0
 ·subst h0;have:=hm.fY.1 rfl;subst this;exact K6 ad c w
 ·exact OH N ad n c w hm ae ae g
set_option maxHeartbeats 1000000 in
theorem dy (s:Bool) (N0:Nat) (v:Value) (w:World) (hm:fK w v N0) (f:jX N0) (g:Gd w) :
    Calls prog 151 #[.bool s,v] w (aZ w (.string (zs (jg s N0)))):=by
 obtain⟨L,hL,cL,rfl⟩:=hm;have hcut:=zv L v w hL cL.lt;obtain⟨N,hN⟩:∃ N,N=mv 10000 L:=⟨_,rfl⟩
 unfold EY at hcut;rw[← hN] at hcut f ⊢;have HC:=ai hcut;have HF:=ai f;have HG:=ai g;obtain⟨ad,nn,cc,rfl⟩:∃ ad nn cc,v = .slice ad nn cc:=by obtain⟨ad,cap,b,off,hv,_⟩:=hL;exact⟨_,_,_,hv⟩
 clear hcut f g hL cL hN;by_cases h0:N=0
 ·have H0:Hid (jg s N=(N:Int)):=ai (by subst h0;exact CA s);have H1:=ai h0;clear h0;cases s
  all_goals
   go_enter func151,ntmps151;go_wp2_with (first
    | (go_at_call 222;refine HC.o.mono ?_;rintro e w' ⟨v',rfl,rfl,hm,_,_,k,cap,_,rfl⟩;have E6:k=0:=hm.fY.2 H1.o;subst E6)
    | (go_at_call 223;refine cto (GO N _ _ _ _ hm HF.o HG.o) fun w1 e1=>?_))
   go_ret;exact⟨cF H0.o.symm,e1⟩
 ·cases s
  ·have H0:Hid (jg false N=(N:Int)):=ai rfl;go_enter func151,ntmps151;go_wp2_with (first
    | (go_at_call 222;refine HC.o.mono ?_;rintro e w' ⟨v',rfl,rfl,hm,_,_,k,cap,_,rfl⟩)
    | (go_at_call 223;refine cto (GO N _ _ _ _ hm HF.o HG.o) fun w1 e1=>?_))
   go_ret;exact⟨cF H0.o.symm,e1⟩
  ·have H0:Hid ((⟨#[45]⟩:ByteArray) ++ zs (N:Int)=zs (jg true N)):=ai (qh ae);have gh:(zs (N:Int)).size<=30000:=by
    rw[cI];refine Nat.le_trans (dJ (k:=20000) af ?_) af;have:=HF.o.out;rwa[show(10000:Nat)=10 ^ 4 by decide,← Nat.pow_mul,show 4*Le=20000 by decide] at this
   have H1:=ai h0;clear h0;go_enter func151,ntmps151;go_wp2_with (first
    | (go_at_call 222;refine HC.o.mono ?_;rintro e w' ⟨v',rfl,rfl,hm,_,_,k,cap,_,rfl⟩;have E6:0<k:=by rcases Nat.eq_zero_or_pos k with h|h;(exact absurd (hm.fY.1 h) H1.o);exact h)
    | (go_at_call 223;refine cto (GO N _ _ _ _ hm HF.o HG.o) fun w1 e1=>?_))
   go_ret;exact⟨dH H0.o,e1⟩
def ot:List Int->Int
 | []=>0
 | x :: t=>x+10000*ot t
theorem Gn(l m:List Int):ot (l ++ m)=ot l+10000 ^ l.length*ot m:=by
 induction l with
 | nil=>simp[ot]
 | cons x t ih =>
  simp only[List.cons_append,ot,ih,List.length_cons];rw[Int.pow_succ,Int.mul_add,← Int.mul_assoc,Int.mul_comm 10000 (10000 ^ t.length),Int.add_assoc]
theorem Dz(l:List Int)(x:Int):ot (l ++ [x])=ot l+10000 ^ l.length*x:=by
 rw[Gn];simp[ot]
theorem uF(l:List Nat):ot (l.map Int.ofNat)=(mv 10000 l:Int):=by
 induction l with
 | nil=>rfl
 | cons x t ih=>simp only[List.map_cons,ot,ih,mv];simp
theorem yg(l:List Int)(i:Nat)(h:i<l.length):ot (l.take (i+1))=ot (l.take i)+10000 ^ i*l[i]:=by
 rw[List.take_succ_eq_append_getElem h,Dz,List.length_take,Nat.min_eq_left (Nat.le_of_lt h)]
def lW(w:World)(v:Value)(l:List Int):Prop :=
 ∃ (ad:Option Addr) (cap b off:Nat),v = .slice ad l.length cap/\l.length<=cap/\cap<=9223372036854775807/\(0<l.length->ad=some ⟨b,off,none⟩/\b<w.heap.size) /\
  ∀ i,i<l.length->w.cell? ⟨b,off+i,none⟩=some (.int .i64 (l.getD i 0))
theorem lW.ext{w w':World}{v:Value}{l:List Int}(h:lW w v l)(e:Ext w w'):lW w' v l:=by
 obtain⟨ad,cap,b,off,hv,h1,h2,h3,h4⟩:=h;refine⟨ad,cap,b,off,hv,h1,h2,fun h0=>⟨(h3 h0).1,Nat.lt_of_lt_of_le (h3 h0).2 e.size⟩,fun i hi=>(e.cell (h3 ae).2).trans (h4 i hi)⟩
theorem lW.fm{w:World}{base e n:Nat}{v:Value}{l:List Int}(h:w.ownsRow base e 1 v n (l.map (Value.int .i64))):lW w v l:=by
 have hlen:l.length=n:=by have:=h.1;simpa using this
 rcases h.2 with⟨rfl,h0⟩|⟨g,cap,cur,rfl,hg,hh,h1,h2,h3,h4⟩
 ·obtain rfl:l=[]:=List.length_eq_zero_iff.1 ae;exact⟨none,0,0,0,rfl,by simp,ae,fun h=>by simp at h,fun i h=>by simp at h⟩
 ·refine⟨some ⟨g,0,none⟩,cap,g,0,by rw[hlen],ae,h2,fun _=>⟨rfl,(Array.getElem?_eq_some_iff.1 hh).1⟩,fun i hi=>?_⟩;have:=h.cellAt i ae;rw[Nat.zero_add,this];simp[hi]
theorem nD{l:List Int}{k:Nat}(h:k<l.length):l.getD k 0=l[k]:=by simp[h]
theorem De(n:Nat):(0:Int)<10000 ^ n:=Int.pow_pos af
structure lY(xs:List Int)(k:Nat)(ov:Int)(P:List Nat):Prop where
 len:P.length=k
 lt:bK 10000 P
 val:(mv 10000 P:Int)+10000 ^ k*ov=ot (xs.take k)
theorem KP{P:List Nat}(h:bK 10000 P):(mv 10000 P:Int)<10000 ^ P.length:=by
 have:=pX h;have e:((10000 ^ P.length:Nat):Int)=(10000:Int) ^ P.length:=by rw[Int.natCast_pow];rfl
 rw[← e];omega
theorem lY.WX{xs:List Int}{k:Nat}{ov:Int}{P:List Nat}(h:lY xs k ov P)(hk:xs.length<=k)(h0:0<=ot xs):0<=ov:=by
 have hv:=h.val;rw[List.take_of_length_le hk] at hv;have hl:=KP h.lt;rw[h.len] at hl;rcases Int.lt_or_le ov 0 with hn|hn
 ·exfalso;have:(10000:Int) ^ k*ov<=10000 ^ k*(-1):=Int.mul_le_mul_of_nonneg_left ae (Int.le_of_lt (De k));rw[Int.mul_neg,Int.mul_one] at this;omega
 ·exact hn
theorem lY.room{xs:List Int}{k:Nat}{ov:Int}{P:List Nat}(h:lY xs k ov P)(hk:xs.length<=k)(hov:0<ov)(f:jX (ot xs).toNat)(h0:0<=ot xs):k<Le:=by
 have hv:=h.val;rw[List.take_of_length_le hk] at hv;have h1:(10000:Int) ^ k*1<=10000 ^ k*ov:=Int.mul_le_mul_of_nonneg_left ae (Int.le_of_lt (De k));have h2:((10000 ^ k:Nat):Int)<=ot xs:=by
  rw[Int.natCast_pow,← hv];rw[Int.mul_one] at h1;have:((10000:Nat):Int)=10000:=rfl;rw[this];omega
 have h3:10000 ^ k<10000 ^ Le:=by have:=f.out;omega
 exact(Nat.pow_lt_pow_iff_right af).1 h3
theorem vm(t:Int):((t.tmod 10000<0/\t.tmod 10000+10000=t % 10000/\(t-(t.tmod 10000+10000)).tdiv 10000=t / 10000)∨(0<=t.tmod 10000/\t.tmod 10000=t % 10000/\(t-t.tmod 10000).tdiv 10000=t / 10000))/\-9999<=t.tmod 10000/\t.tmod 10000<=9999:=by
 have h1:=Int.tmod_lt_of_pos t (show(0:Int)<10000 by decide);have h2:=Int.lt_tmod_of_pos t (show(0:Int)<10000 by decide);have h3:=Int.mul_tdiv_add_tmod t 10000;have hd:=Int.mul_ediv_add_emod t 10000;have he:=Int.emod_nonneg t (show(10000:Int)≠0 by decide);have SR:=Int.emod_lt_of_pos t (show(0:Int)<10000 by decide);refine⟨?_,ae,ae⟩;rcases Int.lt_or_le (t.tmod 10000) 0 with h|h
 ·refine Or.inl ⟨h,ae,?_⟩;have:t-(t.tmod 10000+10000)=(t / 10000)*10000:=ae;rw[this,Int.mul_tdiv_cancel _ af]
 ·refine Or.inr ⟨h,ae,?_⟩;have:t-t.tmod 10000=(t / 10000)*10000:=ae;rw[this,Int.mul_tdiv_cancel _ af]
theorem lY.step{xs:List Int}{k:Nat}{ov t:Int}{P:List Nat}(h:lY xs k ov P)(ht:10000 ^ k*t=10000 ^ k*ov+(ot (xs.take (k+1))-ot (xs.take k))):lY xs (k+1) (t / 10000) (P ++ [(t % 10000).toNat]):=by
 have he:=Int.emod_nonneg t (show(10000:Int)≠0 by decide);have SR:=Int.emod_lt_of_pos t (show(0:Int)<10000 by decide);have hd:=Int.mul_ediv_add_emod t 10000;refine⟨by simp[h.len],?_,?_⟩
 ·intro x hx;rcases List.mem_append.1 hx with hx|hx
  ·exact h.lt x hx
  ·simp only[List.mem_singleton] at hx;omega
 ·rw[jJ,h.len];have e:((mv 10000 P+10000 ^ k*(t % 10000).toNat:Nat):Int)=(mv 10000 P:Int)+10000 ^ k*(t % 10000):=by
   rw[Int.natCast_add,Int.natCast_mul,Int.natCast_pow,Int.toNat_of_nonneg he];rfl
  rw[e,Int.pow_succ,Int.mul_assoc,Int.add_assoc,← Int.mul_add,Int.add_comm (t % 10000),hd,ht];have:=h.val;omega
set_option maxHeartbeats 4000000 in
theorem Br (xs:List Int) (v:Value) (w:World) (h:lW w v xs) (hb:∀ x ∈ xs,-1000000000000000<=x/\x<=1000000000000000) (hl:xs.length<=20000) (h0:0<=ot xs) (f:jX (ot xs).toNat) :
    Calls prog 224 #[v] w (JA w (ot xs).toNat):=by
 obtain⟨i0,hi,nI,mE,jh⟩:=info_parts rO;obtain⟨n,hn⟩:∃ n,n=xs.length:=⟨_,rfl⟩
 obtain⟨ad,cap,b,off,rfl,h1,hc,y5,hC⟩:=h;rw[← hn] at h1 y5 hC hl ⊢;have HN:=ai hn;have HB:=ai hb;have H1:=ai y5;have H2:=ai hC;have H0:=ai h0;have HF:=ai f;clear hn hb y5 hC h0 f;go_enter func224,ntmps224;go_wp2
 go_loopw [3, 4, 5] (fun out over i W => ∃ (k : Nat) (ov : Int) (P : List Nat), i = .int .i64 k /\ over = .int .i64 ov /\ -2000000000000 <= ov /\ ov <= 2000000000000 /\ k <= 30000 /\ Hid (lY xs k ov P) /\
     W.ownsRow w.heap.size 3 1 out k (P.map fun(x:Nat)=>Value.int .i64 x)/\Ext w W)
  (fun _ over i _=>(n-(intOf i).toNat)*10000000000000000+(intOf over).natAbs)
 case atStart=>exact⟨0,0,[],rfl,rfl,ae,ae,ae,ai ⟨rfl,fun x hx=>by simp at hx,by simp[mv,ot]⟩,⟨rfl,Or.inl ⟨rfl,rfl⟩⟩,Ext.refl _⟩
 case round =>
  obtain⟨k,ov,P,rfl,rfl,Oa,pw,Ok,hinv,cq,hx⟩:=hrel;obtain⟨oa,on,oc,rfl⟩:=vW cq;have HO:=ai cq;clear cq;by_cases hk:k<n
  ·obtain⟨x,hxx⟩:∃ x,x=xs.getD k 0:=⟨_,rfl⟩
   have hx1:-1000000000000000<=x/\x<=1000000000000000:=by
    rw[hxx,nD (by rw[← HN.o];exact hk)];exact HB.o _ (List.getElem_mem _)
   obtain⟨hx1,hx2⟩:=hx1;have y4:wr.cell? ⟨b,off+k,none⟩=some (.int .i64 x):=by rw[hxx];exact(hx.cell (p:=⟨b,off+k,none⟩) (H1.o ae).2).trans (H2.o k hk)
   have hix:=dG 85 3 underlying85 ph (cap:=cap) (fun h=>(H1.o h).1) k hk;obtain⟨LU,I0,QN⟩:=vm (ov+x);obtain⟨t,ht⟩:∃ t,t=ov+x:=⟨_,rfl⟩
   have mg:k<xs.length:=by rw[← HN.o];exact hk
   have kp:=ai (hinv.out.step (t:=t) (by
    rw[yg xs k mg,ht,Int.mul_add,hxx,nD mg];omega))
   have HT:=ai ht;rw[← ht] at LU I0 QN;have tb1:-1002000000000000<=t:=ae;have tb2:t<=1002000000000000:=ae;have hq:=Int.mul_ediv_add_emod t 10000;have he:=Int.emod_nonneg t (show(10000:Int)≠0 by decide);have SR:=Int.emod_lt_of_pos t (show(0:Int)<10000 by decide);have Q1:Hid (-100200000001<=t / 10000/\t / 10000<=100200000000):=ai ae;have E0:=ai (And.intro he SR);have htt:ov+x=t:=ht.symm;clear hxx ht hq he SR mg HT;obtain⟨q,KT⟩:∃ q,q=t / 10000:=⟨_,rfl⟩
   obtain⟨D,S3⟩:∃ D:Nat,(D:Int)=t % 10000:=⟨(t % 10000).toNat,Int.toNat_of_nonneg E0.out.1⟩
   have hD1:(D:Int)<=9999:=by have:=E0.out.2;omega
   have jo:-100200000001<=q:=by rw[KT];exact Q1.out.1
   have kn:q<=100200000000:=by rw[KT];exact Q1.out.2
   have HQ:=ai KT;have HDD:=ai S3;have HS2:Hid (lY xs (k+1) q (P ++ [D])):=ai (by have:=kp.o;rw[← S3,Int.toNat_natCast,← KT] at this;exact this);rw[← KT,← S3] at LU;clear KT S3;rcases LU with⟨c1,c2,c3⟩|⟨c1,c2,c3⟩
   ·obtain⟨n0,dX⟩:∃ n0,t.tmod 10000=n0:=⟨_,rfl⟩
    rw[dX] at c1 c2 I0 QN;rw[dX,c2] at c3;go_wp2_with (at_builtin;refine wpList_append_own (wr.alloc (.cells #[.int .i64 (D:Int)] 3)) rfl _ _ 85 rfl w.heap.size 3 i0 (.int .i64 0) 1 8 underlying85 hi nI mE jh rfl af _ k _ rfl (HO.o.alloc _) ⟨wr.heap.size,0,none⟩ 1 1 [.int .i64 (D:Int)] rfl rfl (qx wr D _) (by intro u hu;simp at hu;subst hu;rfl) (by unfold maxLen;omega) ae (by have:=hx.size;simp;omega) ?_;intro v' w1 dD cG Oa);go_roundw
    case rel=>exact⟨k+1,q,P ++ [D],by go_num,rfl,ae,ae,ae,HS2,by rw[List.map_append];exact dD,(hx.alloc _).grown cG (fun g hg=>gH HO.o g hg)⟩
    case measure=>simp[intOf];omega
   ·rw[c2] at c1 I0 QN;rw[c2] at c3;go_wp2_with (at_builtin;refine wpList_append_own (wr.alloc (.cells #[.int .i64 (D:Int)] 3)) rfl _ _ 85 rfl w.heap.size 3 i0 (.int .i64 0) 1 8 underlying85 hi nI mE jh rfl af _ k _ rfl (HO.o.alloc _) ⟨wr.heap.size,0,none⟩ 1 1 [.int .i64 (D:Int)] rfl rfl (qx wr D _) (by intro u hu;simp at hu;subst hu;rfl) (by unfold maxLen;omega) ae (by have:=hx.size;simp;omega) ?_;intro v' w1 dD cG Oa);go_roundw
    case rel=>exact⟨k+1,q,P ++ [D],by go_num,rfl,ae,ae,ae,HS2,by rw[List.map_append];exact dD,(hx.alloc _).grown cG (fun g hg=>gH HO.o g hg)⟩
    case measure=>simp[intOf];omega
  ·have SM:xs.length<=k:=by rw[← HN.o];omega
   have hov:=hinv.out.WX SM H0.o;by_cases hz:ov=0
   ·subst hz;have iR:=hinv.out.val;rw[Int.mul_zero,Int.add_zero,List.take_of_length_le SM] at iR;have HV:Hid (mv 10000 P=(ot xs).toNat):=ai ae;have hlen:=hinv.out.len;subst hlen;have HH:=ai (Holds.fm HO.o);clear iR SM hov;go_wp2_with (go_at_call 222;refine(zv P _ _ HH.o hinv.out.lt).mono ?_;rintro e w' ⟨v',rfl,rfl,hm,_⟩);go_ret;exact⟨_,rfl,hx,by rw[HV.o] at hm;exact hm⟩
   ·obtain⟨LU,I0,QN⟩:=vm ov;obtain⟨t,ht⟩:∃ t,t=ov:=⟨_,rfl⟩
    subst ht;have hk5:k<Le:=hinv.out.room SM ae HF.o H0.o;have hk6:k<5000:=hk5;have kp:=ai (hinv.out.step (t:=t) (by
     rw[List.take_of_length_le SM,List.take_of_length_le ae];omega))
    have tb1:1<=t:=ae;have tb2:t<=2000000000000:=ae;have hq:=Int.mul_ediv_add_emod t 10000;have he:=Int.emod_nonneg t (show(10000:Int)≠0 by decide);have SR:=Int.emod_lt_of_pos t (show(0:Int)<10000 by decide);have Q1:Hid (-100200000001<=t / 10000/\t / 10000<=100200000000):=ai ae;have Q2:Hid ((t / 10000).natAbs<t.natAbs):=ai ae;have E0:=ai (And.intro he SR);clear hq he SR SM hov hk5;obtain⟨q,KT⟩:∃ q,q=t / 10000:=⟨_,rfl⟩
    obtain⟨D,S3⟩:∃ D:Nat,(D:Int)=t % 10000:=⟨(t % 10000).toNat,Int.toNat_of_nonneg E0.out.1⟩
    have hD1:(D:Int)<=9999:=by have:=E0.out.2;omega
    have jo:-100200000001<=q:=by rw[KT];exact Q1.out.1
    have kn:q<=100200000000:=by rw[KT];exact Q1.out.2
    have HQ:=ai KT;have HDD:=ai S3;have HS2:Hid (lY xs (k+1) q (P ++ [D])):=ai (by have:=kp.o;rw[← S3,Int.toNat_natCast,← KT] at this;exact this);rw[← KT,← S3] at LU;clear KT S3;rcases LU with⟨c1,c2,c3⟩|⟨c1,c2,c3⟩
    ·obtain⟨n0,dX⟩:∃ n0,t.tmod 10000=n0:=⟨_,rfl⟩
     rw[dX] at c1 c2 I0 QN;rw[dX,c2] at c3;go_wp2_with (at_builtin;refine wpList_append_own (wr.alloc (.cells #[.int .i64 (D:Int)] 3)) rfl _ _ 85 rfl w.heap.size 3 i0 (.int .i64 0) 1 8 underlying85 hi nI mE jh rfl af _ k _ rfl (HO.o.alloc _) ⟨wr.heap.size,0,none⟩ 1 1 [.int .i64 (D:Int)] rfl rfl (qx wr D _) (by intro u hu;simp at hu;subst hu;rfl) (by unfold maxLen;omega) ae (by have:=hx.size;simp;omega) ?_;intro v' w1 dD cG Oa);go_roundw
     case rel=>exact⟨k+1,q,P ++ [D],by go_num,rfl,ae,ae,ae,HS2,by rw[List.map_append];exact dD,(hx.alloc _).grown cG (fun g hg=>gH HO.o g hg)⟩
     case measure=>simp[intOf];have:=Q2.out;rw[← HQ.o] at this;omega
    ·rw[c2] at c1 I0 QN;rw[c2] at c3;go_wp2_with (at_builtin;refine wpList_append_own (wr.alloc (.cells #[.int .i64 (D:Int)] 3)) rfl _ _ 85 rfl w.heap.size 3 i0 (.int .i64 0) 1 8 underlying85 hi nI mE jh rfl af _ k _ rfl (HO.o.alloc _) ⟨wr.heap.size,0,none⟩ 1 1 [.int .i64 (D:Int)] rfl rfl (qx wr D _) (by intro u hu;simp at hu;subst hu;rfl) (by unfold maxLen;omega) ae (by have:=hx.size;simp;omega) ?_;intro v' w1 dD cG Oa);go_roundw
     case rel=>exact⟨k+1,q,P ++ [D],by go_num,rfl,ae,ae,ae,HS2,by rw[List.map_append];exact dD,(hx.alloc _).grown cG (fun g hg=>gH HO.o g hg)⟩
     case measure=>simp[intOf];have:=Q2.out;rw[← HQ.o] at this;omega
