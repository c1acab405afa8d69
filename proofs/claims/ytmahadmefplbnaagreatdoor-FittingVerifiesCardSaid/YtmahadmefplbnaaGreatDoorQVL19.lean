/- Part 19. -/
import Derived.Test.YtmahadmefplbnaaGreatDoorQVLB
import Derived.Test.YtmahadmefplbnaaGreatDoorQVL18
import Derived.Deep.LoopGhost
set_option maxRecDepth 100000
set_option maxHeartbeats 2000000
open Go.Proofs.Tryz
namespace Go.Proofs.YtmahadmefplbnaaGreatDoor
open Go Go.RowKit
theorem Sn(X:Int):max X (-X)=(X.natAbs:Int):=ae
theorem K7(a b:Int)(w:World)(g:Gd w)(ha:(zl a).length<=18)(hb:(zl b).length<=18):Calls prog 182 #[.string (zs a),.string (zs b)] w (aZ w (.string (zs (Int.gcd a b)))):=by
 have h1:=dU ha;have h2:=dU hb;have ba:a.natAbs<=1000000000000000000:=Nat.le_of_lt h1;have bb:b.natAbs<=1000000000000000000:=Nat.le_of_lt h2;have HA:=ai ha;have HB:=ai hb;have BA:=ai ba;have BB:=ai bb;clear h1 h2 ha hb ba bb;go_enter func182,ntmps182;go_wp2_with (first
  | (go_at_call 167;((with_reducible refine(fu a 18 w (by have:=HA.o;omega) af).mono ?_);rintro e w1 ⟨rfl,e1⟩))
  | (go_at_call 167;refine cto (fu b 18 _ (by have:=HB.o;omega) af) fun w2 e2=>?_))
 go_loopw [5,7] (fun x y W=>∃ X Y:Int,x = .int .i64 X/\y = .int .i64 Y/\Int.gcd X Y=Int.gcd a b/\X.natAbs<=1000000000000000000/\Y.natAbs<=1000000000000000000/\Ext w W)
  (fun _ y _=>(intOf y).natAbs)
 case atStart=>exact⟨a,b,rfl,rfl,rfl,BA.out,BB.out,e1.trans e2⟩
 case round =>
  obtain⟨X,Y,rfl,rfl,hg,hX,hY,hx⟩:=hrel;have JN:=ai hg;have HX:=ai hX;have HY:=ai hY;have x1:-1000000000000000000<=X:=ae;have x2:X<=1000000000000000000:=ae;have y1:-1000000000000000000<=Y:=ae;have y2:Y<=1000000000000000000:=ae;clear hg hX hY;by_cases h0:Y=0
  ·subst h0;have hf:Int.gcd a b=X.natAbs:=by rw[← JN.o,Int.gcd_zero]
   have HF:=ai hf;clear hf;go_wp2_with (go_at_call 168;refine cto (F8 (max X (-X)) ae ae _ (g.ext hx)) fun w3 e3=>?_);go_ret;exact⟨cF (by rw[Sn,HF.o]),hx.trans e3⟩
  ·have hs:=DN X Y;have hm:=Int.natAbs_tmod X Y;have aP:=Nat.mod_lt X.natAbs (show 0<Y.natAbs by omega);have HS:=ai hs;have HL:=ai (show(X.tmod Y).natAbs<Y.natAbs by omega);clear hs hm aP;go_wp2;go_region
   all_goals
    go_roundw
    case rel=>(repeat apply Exists.intro);exact⟨⟨Y,X.tmod Y,rfl,rfl,by rw[HS.o,JN.o],HY.o,by have:=HL.o;have:=HY.o;omega,hx.drew⟩,rfl⟩
    case measure=>have:=HL.o;simpa[intOf] using this
theorem Jh(s:Bool)(ad:Option Addr)(n c:Nat)(w:World):(Instr.field 216 (.agg #[.bool s,.slice ad n c]) 1).run prog w = .ok (.slice ad n c) w:=ag
theorem Fd.mono{a b:Nat}(h:Fd a)(hb:b<=a):Fd b:=⟨Nat.lt_of_le_of_lt hb h.out⟩
set_option maxHeartbeats 4000000 in
theorem S6(a b:Int){k m:Nat}(w:World)(g:Gd w)(ha:IB k a)(hb:IB m b)(hk:k<=9000)(hm:m<=9000)(h:¬ ((zl a).length<=18/\(zl b).length<=18)):Calls prog 182 #[.string (zs a),.string (zs b)] w (aZ w (.string (zs (Int.gcd a b)))):=by
 have la:=ha.len hk;have lb:=hb.len hm;have HA:=ai (ha.fit hk);have HB:=ai (hb.fit hm);have HG:=ai g;clear ha hb g;have hfp:=Jh;by_cases h9:(zl a).length<=18
 ·have B4:¬ (zl b).length<=18:=fun e=>h ⟨h9,e⟩
  have H9:=ai h9;have tq:=ai B4;clear h h9 B4;go_enter func182,ntmps182;go_wp2_with (first
   | (go_at_call 167;((with_reducible refine(fu a 18 w (by have:=H9.o;omega) af).mono ?_);rintro e w1 ⟨rfl,e1⟩))
   | (go_at_call 167;refine cto (hU b 18 _ (by have:=tq.o;omega)) fun w2 e2=>?_)
   | (go_at_call 169;((with_reducible refine(dI a w2 la).mono ?_);rintro e w3 ⟨va,rfl,e3,ad,na,ca,rfl,ma⟩))
   | (go_at_call 169;refine(dI b w3 lb).mono ?_;rintro e w4 ⟨vb,rfl,e4,bd,nb,cb,rfl,mb⟩))
  have gv:Ext w w2:=e1.trans e2;clear e1 e2;go_loopg [9,10] b.natAbs (fun gk x y W=>∃ (X Y:Nat) (xa ya:Option Addr) (xn xc yn yc:Nat),x = .slice xa xn xc/\y = .slice ya yn yc/\eV W (.slice xa xn xc) X/\eV W (.slice ya yn yc) Y/\Y<=gk/\Nat.gcd X Y=Int.gcd a b/\Fd X/\Fd Y/\Ext w W)
  case atStart=>exact⟨a.natAbs,b.natAbs,_,_,_,_,_,_,rfl,rfl,ma.ext e4,mb,Nat.le_refl _,rfl,HA.o,HB.o,(gv.trans e3).trans e4⟩
  case round =>
   obtain⟨X,Y,xa,ya,xn,xc,yn,yc,rfl,rfl,mx,my,hk,hgc,fx,fy,hx⟩:=hrel;have hl:=my.fY;have HMX:=ai mx;have TJ:=ai my;have JN:=ai hgc;have Zo:=ai fx;have HFY:=ai fy;clear mx my hgc fx fy;by_cases h0:yn=0
   ·have hY:=hl.1 h0;subst h0;subst hY;have hf:Int.gcd a b=X:=by rw[← JN.o,Nat.gcd_zero_right]
    have HF:=ai hf;clear hf hl;go_wp2_with (go_at_call 171;refine cto (eH false X _ _ _ _ HMX.o Zo.o.fit.tZ (HG.o.ext hx)) fun w9 e9=>?_);go_ret;exact⟨cF (by rw[HF.o];rfl),hx.trans e9⟩
   ·have hY:0<Y:=by
     rcases Nat.eq_zero_or_pos Y with h|h
     ·exact absurd (hl.2 h) h0
     ·exact h
    have hyn:0<yn:=ae;have SN:=Nat.mod_lt X hY;have HY:=ai hY;clear hl hY;go_wp2_with (go_at_call 246;refine(kJ X Y _ _ _ HMX.o TJ.o HY.o Zo.o).mono ?_;rintro e w5 ⟨vq,vr,rfl,e5,mq,mr⟩;obtain⟨qa,ql,qc,rfl⟩:=mq.slice;obtain⟨ra,rl,rc,rfl⟩:=mr.slice);go_roundg (X % Y)
    case rel=>exact⟨Y,X % Y,ya,ra,yn,yc,rl,rc,rfl,rfl,TJ.o.ext e5,mr,Nat.le_refl _,by rw[← JN.o,Nat.gcd_comm,← Nat.gcd_rec,Nat.gcd_comm],HFY.o,Zo.o.mono (Nat.mod_le _ _),hx.trans e5⟩
    case measure=>omega
 ·have H9:=ai h9;clear h h9;go_enter func182,ntmps182;go_wp2_with (first
   | (go_at_call 167;((with_reducible refine(hU a 18 w (by have:=H9.o;omega)).mono ?_);rintro e w2 ⟨rfl,gv⟩))
   | (go_at_call 169;((with_reducible refine(dI a w2 la).mono ?_);rintro e w3 ⟨va,rfl,e3,ad,na,ca,rfl,ma⟩))
   | (go_at_call 169;refine(dI b w3 lb).mono ?_;rintro e w4 ⟨vb,rfl,e4,bd,nb,cb,rfl,mb⟩))
  go_loopg [9,10] b.natAbs (fun gk x y W=>∃ (X Y:Nat) (xa ya:Option Addr) (xn xc yn yc:Nat),x = .slice xa xn xc/\y = .slice ya yn yc/\eV W (.slice xa xn xc) X/\eV W (.slice ya yn yc) Y/\Y<=gk/\Nat.gcd X Y=Int.gcd a b/\Fd X/\Fd Y/\Ext w W)
  case atStart=>exact⟨a.natAbs,b.natAbs,_,_,_,_,_,_,rfl,rfl,ma.ext e4,mb,Nat.le_refl _,rfl,HA.o,HB.o,(gv.trans e3).trans e4⟩
  case round =>
   obtain⟨X,Y,xa,ya,xn,xc,yn,yc,rfl,rfl,mx,my,hk,hgc,fx,fy,hx⟩:=hrel;have hl:=my.fY;have HMX:=ai mx;have TJ:=ai my;have JN:=ai hgc;have Zo:=ai fx;have HFY:=ai fy;clear mx my hgc fx fy;by_cases h0:yn=0
   ·have hY:=hl.1 h0;subst h0;subst hY;have hf:Int.gcd a b=X:=by rw[← JN.o,Nat.gcd_zero_right]
    have HF:=ai hf;clear hf hl;go_wp2_with (go_at_call 171;refine cto (eH false X _ _ _ _ HMX.o Zo.o.fit.tZ (HG.o.ext hx)) fun w9 e9=>?_);go_ret;exact⟨cF (by rw[HF.o];rfl),hx.trans e9⟩
   ·have hY:0<Y:=by
     rcases Nat.eq_zero_or_pos Y with h|h
     ·exact absurd (hl.2 h) h0
     ·exact h
    have hyn:0<yn:=ae;have SN:=Nat.mod_lt X hY;have HY:=ai hY;clear hl hY;go_wp2_with (go_at_call 246;refine(kJ X Y _ _ _ HMX.o TJ.o HY.o Zo.o).mono ?_;rintro e w5 ⟨vq,vr,rfl,e5,mq,mr⟩;obtain⟨qa,ql,qc,rfl⟩:=mq.slice;obtain⟨ra,rl,rc,rfl⟩:=mr.slice);go_roundg (X % Y)
    case rel=>exact⟨Y,X % Y,ya,ra,yn,yc,rl,rc,rfl,rfl,TJ.o.ext e5,mr,Nat.le_refl _,by rw[← JN.o,Nat.gcd_comm,← Nat.gcd_rec,Nat.gcd_comm],HFY.o,Zo.o.mono (Nat.mod_le _ _),hx.trans e5⟩
    case measure=>omega
theorem pY(a b:Int){k m:Nat}(w:World)(g:Gd w)(ha:IB k a)(hb:IB m b)(hk:k<=9000)(hm:m<=9000):Calls prog 182 #[.string (zs a),.string (zs b)] w (aZ w (.string (zs (Int.gcd a b)))):=by
 by_cases h:(zl a).length<=18/\(zl b).length<=18
 ·exact K7 a b w g h.1 h.2
 ·exact S6 a b w g ha hb hk hm h
theorem indexByte_none{c:UInt8}:∀ {l:List UInt8},c ∉ l->Lib.indexByte l c=-1
 | [],_=>rfl
 | b :: l,h=>by
  have h1:(b == c)=false:=by simpa using fun e=>h (by simp[e])
  simp[Lib.indexByte,h1,indexByte_none (fun e=>h (List.mem_cons_of_mem _ e))]
theorem mY{c:UInt8}{y:List UInt8}:∀ {x:List UInt8},c ∉ x->Lib.indexByte (x ++ c :: y) c=x.length
 | [],_=>by simp[Lib.indexByte]
 | b :: x,h=>by
  have h1:(b == c)=false:=by simpa using fun e=>h (by simp[e])
  have ih:=mY (y:=y) (fun e=>h (List.mem_cons_of_mem _ e));have h2:((x.length:Int) == -1)=false:=by simp
  simp only[List.cons_append,Lib.indexByte,h1,ih,h2];simp
theorem tC(l:List UInt8):(47:UInt8) ∉ l∨∃ x y,l=x ++ 47 :: y/\(47:UInt8) ∉ x:=by
 induction l with
 | nil=>exact Or.inl (by simp)
 | cons b t ih =>
  by_cases h:b=47
  ·subst h;exact Or.inr ⟨[],t,rfl,by simp⟩
  ·rcases ih with ih|⟨x,y,rfl,hx⟩
   ·exact Or.inl (by simp[ih,Ne.symm h])
   ·exact Or.inr ⟨b :: x,y,rfl,by simp[hx,Ne.symm h]⟩
theorem Pv(s:ByteArray):s=⟨s.data.toList.toArray⟩:=by apply dW;simp
set_option maxHeartbeats 1000000 in
theorem Kl (s:ByteArray) (w:World) (h:(47:UInt8) ∉ s.data.toList) :
    Calls prog 232 #[.string s,.string ⟨#[47]⟩] w fun e w'=>e = .returned (.tuple #[.string s,.string ⟨#[]⟩,.bool false])/\Ext w w':=by
 have hi:=indexByte_none h;have HI:=ai hi;clear hi h;go_enter func232,ntmps232;go_wp2_with (go_at_call 264;refine(stringslite_Index_one s 47 _).mono ?_;rw[HI.o];rintro e w' ⟨rfl,rfl⟩);go_ret3;exact⟨rfl,Ext.refl _⟩
theorem El(x y:List UInt8):(⟨(x ++ 47 :: y).toArray⟩:ByteArray).extract 0 x.length=⟨x.toArray⟩:=by
 apply dW;rw[iU];simp
theorem zu(x y:List UInt8):(⟨(x ++ 47 :: y).toArray⟩:ByteArray).extract (x.length+1) (⟨(x ++ 47 :: y).toArray⟩:ByteArray).size=⟨y.toArray⟩:=by
 apply dW;rw[iU];have:(⟨(x ++ 47 :: y).toArray⟩:ByteArray).size=x.length+1+y.length:=by(simp[ByteArray.size]);try omega
 rw[this,show x ++ 47 :: y=(x ++ [47]) ++ y by simp,show x.length+1=(x ++ [(47:UInt8)]).length by simp,List.drop_left];simp
set_option maxHeartbeats 1000000 in
theorem RD (s:ByteArray) (x y:List UInt8) (w:World) (hs:s.data.toList=x ++ 47 :: y) (h:(47:UInt8) ∉ x) (hl:s.size<=1000000) :
    Calls prog 232 #[.string s,.string ⟨#[47]⟩] w fun e w'=>e = .returned (.tuple #[.string ⟨x.toArray⟩,.string ⟨y.toArray⟩,.bool true])/\Ext w w':=by
 have hi:Lib.indexByte s.data.toList 47=x.length:=by rw[hs];exact mY h
 have gh:x.length+1<=s.size:=by
  have:s.size=s.data.toList.length:=by rw[Array.length_toList];rfl
  rw[this,hs];simp
 have nU:=El x y;have Ov:=zu x y;rw[show(⟨(x ++ 47 :: y).toArray⟩:ByteArray)=s by rw[← hs]] at nU Ov;obtain⟨n,hn⟩:∃ n,n=x.length:=⟨_,rfl⟩
 rw[← hn] at hi gh nU Ov;have HI:=ai hi;have HL:=ai nU;have HR:=ai Ov;clear hi h hs hn nU Ov;have qgi:(n:Int)+1<=(s.size:Int):=ae;have qgh:(n:Int)<=(s.size:Int):=ae;go_enter func232,ntmps232;go_wp2_with (go_at_call 264;refine(stringslite_Index_one s 47 _).mono ?_;rw[HI.o];rintro e w' ⟨rfl,rfl⟩);go_region
 all_goals
  go_wp2;go_ret3;exact⟨by rw[← HL.o,← HR.o];rfl,(Ext.refl _).drew⟩
theorem Ek (s:ByteArray) (w:World) (h:(47:UInt8) ∉ s.data.toList) :
    Calls prog 163 #[.string s,.string ⟨#[47]⟩] w (aZ w (.tuple #[.string s,.string ⟨#[]⟩,.bool false])):=by
 go_enter func163,ntmps163;go_wp2_with (go_at_call 232;refine(Kl s _ h).mono ?_;rintro e w' ⟨rfl,e1⟩);go_ret3;exact⟨rfl,e1⟩
theorem Pb (s:ByteArray) (x y:List UInt8) (w:World) (hs:s.data.toList=x ++ 47 :: y) (h:(47:UInt8) ∉ x) (hl:s.size<=1000000) :
    Calls prog 163 #[.string s,.string ⟨#[47]⟩] w (aZ w (.tuple #[.string ⟨x.toArray⟩,.string ⟨y.toArray⟩,.bool true])):=by
 have HS:=ai hs;have H:=ai h;clear hs h;go_enter func163,ntmps163;go_wp2_with (go_at_call 232;refine(RD s x y _ HS.o H.o hl).mono ?_;rintro e w' ⟨rfl,e1⟩);go_ret3;exact⟨rfl,e1⟩
theorem QB.len{k:Nat}{q:Rat}(h:QB k q)(hk:k<=9000):(qs q).size<=1000000:=by
 rw[rz];have h1:=jr (n:=q.num) (k:=k+1) ae (Nat.lt_of_lt_of_le h.num (Nat.pow_le_pow_right af ae));have h2:=dJ (u:=q.den) (k:=k+1) ae (Nat.lt_of_lt_of_le h.den (Nat.pow_le_pow_right af ae));unfold ql;split
 ·omega
 ·simp;omega
theorem dC (q:Rat) {k:Nat} (w:World) (hq:QB k q) (hk:k<=9000) :
    Calls prog 86 #[.string (qs q)] w (aZ w (.tuple #[.string (zs q.num),.string (zs q.den)])):=by
 have hl:=hq.len hk;by_cases h:q.den=1
 ·have e1:qs q=zs q.num:=by unfold qs zs;rw[ik h]
  have e2:zs (q.den:Int)=⟨#[49]⟩:=by rw[h];exact j3
  rw[e1,e2];have SL:(47:UInt8) ∉ (zs q.num).data.toList:=by rw[dA];exact fL _
  have H:=ai SL;clear e1 e2 SL h hq hl;go_enter func86,ntmps86;go_wp2_with (go_at_call 163;refine(Ek _ _ H.o).mono ?_;rintro e w' ⟨rfl,e1⟩);go_ret2;exact⟨rfl,e1⟩
 ·have SL:=fL q.num;have e1:(qs q).data.toList=zl q.num ++ 47 :: Lib.decDigits q.den:=by rw[iO,fV h]
  have e2:zs (q.den:Int)=⟨(Lib.decDigits q.den).toArray⟩:=by unfold zs;rw[fS]
  have e3:zs q.num=⟨(zl q.num).toArray⟩:=rfl;rw[e2,e3];have H:=ai SL;have E:=ai e1;clear e1 e2 e3 SL h hq;go_enter func86,ntmps86;go_wp2_with (go_at_call 163;refine(Pb _ _ _ _ E.out H.o hl).mono ?_;rintro e w' ⟨rfl,e1⟩);go_ret2;exact⟨rfl,e1⟩
theorem qg{k:Nat}{n:Int}(h:IB k n)(hk:k<=9000):(zs n).size<=100000:=by rw[gA];exact h.len hk
theorem qB(n:Int)(d:Nat):(zs n ++ (⟨#[47]⟩:ByteArray)) ++ zs (d:Int)=⟨(zl n ++ 47 :: Lib.decDigits d).toArray⟩:=by
 apply dW;rw[ByteArray.data_append,Array.toList_append,ByteArray.data_append,Array.toList_append,dA,dA,fS];simp
theorem wG (n:Int) (d:Nat) {k m:Nat} (w:World) (hn:IB k n) (hd:IB m (d:Int)) (hk:k<=9000) (hm:m<=9000) :
    Calls prog 249 #[.string (zs n),.string (zs (d:Int))] w fun e w'=>e = .returned (.string ⟨(jS n d).toArray⟩)/\w=w':=by
 have l1:=qg hn hk;have l2:=qg hd hm;by_cases h:d=1
 ·have h1:=zQ (n:=(d:Int)) ae;have e:(⟨(jS n d).toArray⟩:ByteArray)=zs n:=by unfold jS;rw[if_pos h];rfl
  have E:=ai e;clear h e;go_enter func249,ntmps249;go_wp2;go_ret;exact⟨by rw[E.out];rfl,rfl⟩
 ·have h1:=uj (n:=(d:Int)) ae;have e:(⟨(jS n d).toArray⟩:ByteArray)=(zs n ++ (⟨#[47]⟩:ByteArray)) ++ zs (d:Int):=by unfold jS;rw[if_neg h,qB]
  have E:=ai e;clear h e;go_enter func249,ntmps249;go_wp2;go_ret;exact⟨by rw[E.out];rfl,rfl⟩
theorem zP{n:Int}(h:n=1):((zs n).toList != [49])=false:=by rw[iA,zR.2 h];rfl
theorem uS{n:Int}(h:n≠1):((zs n).toList != [49])=true:=by rw[iA];simpa using fun e=>h (zR.1 e)
theorem QB.fM{k:Nat}{q:Rat}(h:QB k q):IB k q.num:=⟨h.num⟩
theorem QB.ey{k:Nat}{q:Rat}(h:QB k q):IB k (q.den:Int):=⟨by rw[Int.natAbs_natCast];exact h.den⟩
theorem KM (n:Int) (d:Nat) (hd:d≠0) {k m:Nat} (hn:IB k n) (hdb:IB m (d:Int)) :
    IB m (Int.gcd n d:Int)/\IB k (n / (Int.gcd n d:Int))/\IB m ((d / Int.gcd n d:Nat):Int)/\(d:Int) / (Int.gcd n d:Int)=((d / Int.gcd n d:Nat):Int)/\(Int.gcd n d:Int)≠0 /\
     (⟨(jS (n / (Int.gcd n d:Int)) (d / Int.gcd n d)).toArray⟩:ByteArray)=qs (mkRat n d):=by
 have hg0:Int.gcd n d≠0:=Int.gcd_ne_zero_right ae;have hgd:Int.gcd n d<=d:=by have:=Int.gcd_le_natAbs_right n (b:=(d:Int)) ae;simpa using this
 refine⟨hdb.of_le (by simpa using hgd),hn.of_le (Int.natAbs_ediv_le_natAbs _ _),hdb.of_le (by simp only[Int.natAbs_natCast];exact Nat.div_le_self _ _),by simp,ae,?_⟩;have e:=C5 (n:=n) (d:=d) (g:=Int.gcd n d) hd rfl;unfold qs;rw[e,Int.tdiv_eq_ediv_of_dvd (Int.gcd_dvd_left _ _)]
set_option maxHeartbeats 1000000 in
theorem kI (n:Int) (d:Nat) (hd:d≠0) {k m:Nat} (w:World) (g:Gd w) (hn:IB k n) (hdb:IB m (d:Int)) (hk:k<=8000) (hm:m<=8000) :
    Calls prog 188 #[.string (zs n),.string (zs (d:Int))] w (aZ w (.string (qs (mkRat n d)))):=by
 obtain⟨f1,f2,f3,f4,f5,f6⟩:=KM n d hd hn hdb;have hs:(d:Int).sign=1:=Int.sign_eq_one_of_pos ae;obtain⟨G,hG⟩:∃ G:Nat,G=Int.gcd n d:=⟨_,rfl⟩
 rw[← hG] at f1 f2 f3 f4 f5 f6;rw[← f6];have HF1:=ai f1;have HF2:=ai f2;have HF3:=ai f3;have HF4:=ai f4;have HF5:=ai f5;have HG:=ai hG;have HN:=ai hn;have HD:=ai hdb;have HS:=ai hs;have JM:=ai g;by_cases h1:(G:Int)=1
 ·have g1:=zQ h1;have g2:=zP h1;have e1:(⟨(jS (n / (G:Int)) (d / G)).toArray⟩:ByteArray)=⟨(jS n d).toArray⟩:=by
   have:G=1:=ae;subst this;simp
  have E1:=ai e1;clear f1 f2 f3 f4 f5 f6 hG hn hdb hs g h1 e1 hd;go_enter func188,ntmps188;go_wp2_with (first
   | (go_at_call 164;refine(ij _ _).mono ?_;rw[HS.o];rintro e w' ⟨rfl,rfl⟩)
   | (go_at_call 182;refine(pY _ _ _ JM.o HN.o HD.o ae ae).mono ?_;rw[← HG.o];rintro e w1 ⟨rfl,e1⟩)
   | (go_at_call 249;refine(wG _ _ _ HN.o HD.o ae ae).mono ?_;rintro e w' ⟨rfl,rfl⟩))
  go_ret;exact⟨by rw[E1.out];rfl,e1⟩
 ·have g1:=uj h1;have g2:=uS h1;clear f1 f2 f3 f4 f5 f6 hG hn hdb hs g h1 hd;go_enter func188,ntmps188;go_wp2_with (first
   | (go_at_call 164;refine(ij _ _).mono ?_;rw[HS.o];rintro e w' ⟨rfl,rfl⟩)
   | (go_at_call 182;refine(pY _ _ _ JM.o HN.o HD.o ae ae).mono ?_;rw[← HG.o];rintro e w1 ⟨rfl,e1⟩)
   | (go_at_call 228;((with_reducible refine(oF n (G:Int) w1 (JM.o.ext e1) HN.o HF1.o ae ae HF5.o).mono ?_);rintro e w2 ⟨rfl,e2⟩))
   | (go_at_call 228;refine(oF (d:Int) (G:Int) _ (JM.o.ext (e1.trans e2)) HD.o HF1.o ae ae HF5.o).mono ?_;rw[HF4.o];rintro e w3 ⟨rfl,e3⟩)
   | (go_at_call 249;refine(wG _ _ _ HF2.o HF3.o ae ae).mono ?_;rintro e w' ⟨rfl,rfl⟩))
  go_ret;exact⟨rfl,(e1.trans e2).trans e3⟩
def jt(s:ByteArray)(a i:Nat):Nat:=val ((s.data.toList.drop a).take (i-a))
theorem eP(s:ByteArray)(a:Nat):jt s a a=0:=by simp[jt,val,dd]
theorem js(s:ByteArray)(a i:Nat)(h:a<=i)(hi:i<s.size):jt s a (i+1)=10*jt s a i+(s[i].toNat-48):=by
 unfold jt;have hl:i-a<(s.data.toList.drop a).length:=by
  rw[List.length_drop,Array.length_toList];have:s.data.size=s.size:=rfl;omega
 rw[show i+1-a=(i-a)+1 by omega,List.take_succ_eq_append_getElem hl,eO,gG,List.getElem_drop,cK s i hi];simp only[show a+(i-a)=i by omega,List.length_singleton,Nat.pow_one];omega
def Ij(s:ByteArray)(a e:Nat):Prop:=∀ i,a<=i->i<e->∃ h:i<s.size,48<=(s[i].toNat:Int)/\(s[i].toNat:Int)<=57
theorem uk(s:ByteArray)(a e i:Nat)(hd:Ij s a e)(h:a<=i)(hi:i<=e):jt s a i<10 ^ (i-a):=by
 induction i with
 | zero => obtain rfl : a = 0 := by omega
           rw[eP];decide
 | succ i ih =>
  by_cases h0:a=i+1
  ·subst h0;rw[eP];exact Nat.pow_pos af
  ·have:=ih ae ae;obtain⟨hs,h1,h2⟩:=hd i ae ae;rw[js s a i ae hs,show i+1-a=(i-a)+1 by omega,Nat.pow_succ];omega
theorem um(s:ByteArray)(a e i:Nat)(hd:Ij s a e)(h:a<=i)(hi:i<=e)(h9:i<a+9):jt s a i<100000000 :=
 Nat.lt_of_lt_of_le (uk s a e i hd h hi) (by
  have:10 ^ (i-a)<=10 ^ 8:=Nat.pow_le_pow_right af ae;exact this)
set_option maxHeartbeats 4000000 in
theorem Kn (s:ByteArray) (b0 e1:Nat) (mi fr:Bool) (w:World) (r1 r2:Int) (r3:Bool) (gh:s.size<=1000000) (hs0:0<s.size)
    (XC:(mi=true/\b0=1/\(s[0].toNat:Int)=45)∨(mi=false/\b0=0/\¬ (s[0].toNat:Int)=45))
    (hd1:Ij s b0 e1) (h01:b0<e1)
    (I3:(fr=true/\∃ h:e1<s.size,(s[e1].toNat:Int)=47)∨(fr=false/\e1=s.size)) (GF:Ij s (e1+1) s.size)
    (hr:Hid ((e1<=b0+9/\(fr=true->s.size<=e1+1+9)->r1=(if mi then -(jt s b0 e1:Int) else jt s b0 e1)/\r2=(if fr then(jt s (e1+1) s.size:Int) else 1)/\r3=true) /\
     (¬ (e1<=b0+9/\(fr=true->s.size<=e1+1+9))->r1=0/\r2=0/\r3=false))) :
    Calls prog 85 #[.string s] w fun e w'=>e = .returned (.tuple #[.int .i64 r1,.int .i64 r2,.bool r3])/\w=w':=by
 have HD1:=ai hd1;have Zu:=ai GF;have Ca:=ai I3;have hes:e1<=s.size:=by rcases I3 with⟨_,h,_⟩|⟨_,h⟩ <;> omega
 have qmr:(0:Int)<s.size:=ae;clear hd1 GF I3;rcases XC with⟨rfl,rfl,hm⟩|⟨rfl,rfl,hm⟩
 ·go_enter func85,ntmps85;go_wp2;go_loop [2,3,5] (fun n z i=>∃ (k N:Nat),1<=k/\k<=e1/\k<=1+9/\z = .int .i64 0/\i = .int .i64 k/\n = .int .i64 N/\N<1000000000/\Hid (N=jt s 1 k)) (fun _ _ i=>s.size-(intOf i).toNat)
  case atStart=>exact⟨1,0,Nat.le_refl _,ae,ae,rfl,rfl,rfl,ae,ai (eP s _).symm⟩
  case round =>
   obtain⟨k,N,hb,hke,hk9,rfl,rfl,rfl,hN,HN⟩:=hrel;by_cases hk:k<e1
   ·obtain⟨BX,d1,d2⟩:=HD1.o k hb hk;have c8:¬ (s[k].toNat:Int)=47:=ae;by_cases h9:k=1+9
    ·obtain⟨rfl,rfl,rfl⟩:=hr.out.2 ae;have h9a:1+9<=k:=ae;clear h9;go_wp2;go_ret3;exact⟨rfl,rfl⟩
    ·have hN8:N<100000000:=by rw[HN.o];exact um s 1 e1 k HD1.o hb hke ae
     have jK:=js s 1 k hb BX;have kp:=ai jK;clear jK;have B4:¬ ((k:Int)-1=9):=ae;go_wp2;go_round
     case rel=>exact⟨k+1,10*N+(s[k].toNat-48),ae,ae,ae,rfl,by go_num,by simp only[Value.int.injEq,true_and];omega,ae,ai (by rw[kp.o,HN.o])⟩
     case measure=>simp[intOf];omega
   ·obtain rfl:k=e1:=ae;rcases Ca.o with⟨rfl,h47s,h47⟩|⟨rfl,he⟩
    ·have qgY:(k:Int)<s.size:=ae;go_wp2;go_loop [2,3,5] (fun z n i=>∃ (j M:Nat),k+1<=j/\j<=s.size/\j<=k+1+9/\z = .int .i64 (-(N:Int))/\i = .int .i64 j/\n = .int .i64 M/\M<1000000000/\Hid (M=jt s (k+1) j)) (fun _ _ i=>s.size-(intOf i).toNat)
     case atStart=>exact⟨k+1,0,Nat.le_refl _,ae,ae,rfl,by go_num,rfl,ae,ai (eP s _).symm⟩
     case round =>
      obtain⟨j,M,nN,hje,hj9,rfl,rfl,rfl,hM,HM⟩:=hrel;by_cases hj:j<s.size
      ·obtain⟨BY,d1,d2⟩:=Zu.o j nN hj;by_cases h9:j=k+1+9
       ·obtain⟨rfl,rfl,rfl⟩:=hr.out.2 (by intro h;have:=h.2 (by first|rfl|trivial);omega);have h9a:k+1+9<=j:=ae;clear h9;go_wp2;go_ret3;exact⟨rfl,rfl⟩
       ·have hM8:M<100000000:=by rw[HM.o];exact um s (k+1) s.size j Zu.o nN hje ae
        have jK:=js s (k+1) j nN BY;have kp:=ai jK;clear jK;have B4:¬ ((j:Int)-((k:Int)+1)=9):=ae;go_wp2;go_round
        case rel=>exact⟨j+1,10*M+(s[j].toNat-48),ae,ae,ae,rfl,by go_num,by simp only[Value.int.injEq,true_and];omega,ae,ai (by rw[kp.o,HM.o])⟩
        case measure=>simp[intOf];omega
      ·obtain rfl:s.size=j:=ae;have k9:=hr.out.1 ⟨ae,fun _=>ae⟩;rw[← HN.o,← HM.o] at k9;have HF:Hid (r1=-(N:Int)/\r2=M/\r3=true):=ai (by simpa using k9);clear k9;go_wp2;go_ret3;exact⟨by rw[HF.o.1,HF.o.2.1,HF.o.2.2];rfl,rfl⟩
    ·have k9:=hr.out.1 ⟨ae,fun h=>by cases h⟩;rw[← HN.o] at k9;have HF:Hid (r1=-(N:Int)/\r2=1/\r3=true):=ai (by simpa using k9);have he':¬ ((k:Int)<s.size):=ae;have SR:(k:Int)=s.size:=ae;clear k9;subst he;go_wp2;go_ret3;exact⟨by rw[HF.o.1,HF.o.2.1,HF.o.2.2];rfl,rfl⟩
 ·go_enter func85,ntmps85;go_wp2;go_loop [2,3,5] (fun n z i=>∃ (k N:Nat),0<=k/\k<=e1/\k<=0+9/\z = .int .i64 0/\i = .int .i64 k/\n = .int .i64 N/\N<1000000000/\Hid (N=jt s 0 k)) (fun _ _ i=>s.size-(intOf i).toNat)
  case atStart=>exact⟨0,0,Nat.le_refl _,ae,ae,rfl,rfl,rfl,ae,ai (eP s _).symm⟩
  case round =>
   obtain⟨k,N,hb,hke,hk9,rfl,rfl,rfl,hN,HN⟩:=hrel;by_cases hk:k<e1
   ·obtain⟨BX,d1,d2⟩:=HD1.o k hb hk;have c8:¬ (s[k].toNat:Int)=47:=ae;by_cases h9:k=0+9
    ·obtain⟨rfl,rfl,rfl⟩:=hr.out.2 ae;have h9a:0+9<=k:=ae;clear h9;go_wp2;go_ret3;exact⟨rfl,rfl⟩
    ·have hN8:N<100000000:=by rw[HN.o];exact um s 0 e1 k HD1.o hb hke ae
     have jK:=js s 0 k hb BX;have kp:=ai jK;clear jK;have B4:¬ ((k:Int)-0=9):=ae;go_wp2;go_round
     case rel=>exact⟨k+1,10*N+(s[k].toNat-48),ae,ae,ae,rfl,by go_num,by simp only[Value.int.injEq,true_and];omega,ae,ai (by rw[kp.o,HN.o])⟩
     case measure=>simp[intOf];omega
   ·obtain rfl:k=e1:=ae;rcases Ca.o with⟨rfl,h47s,h47⟩|⟨rfl,he⟩
    ·have qgY:(k:Int)<s.size:=ae;go_wp2;go_loop [2,3,5] (fun z n i=>∃ (j M:Nat),k+1<=j/\j<=s.size/\j<=k+1+9/\z = .int .i64 ((N:Int))/\i = .int .i64 j/\n = .int .i64 M/\M<1000000000/\Hid (M=jt s (k+1) j)) (fun _ _ i=>s.size-(intOf i).toNat)
     case atStart=>exact⟨k+1,0,Nat.le_refl _,ae,ae,rfl,by go_num,rfl,ae,ai (eP s _).symm⟩
     case round =>
      obtain⟨j,M,nN,hje,hj9,rfl,rfl,rfl,hM,HM⟩:=hrel;by_cases hj:j<s.size
      ·obtain⟨BY,d1,d2⟩:=Zu.o j nN hj;by_cases h9:j=k+1+9
       ·obtain⟨rfl,rfl,rfl⟩:=hr.out.2 (by intro h;have:=h.2 (by first|rfl|trivial);omega);have h9a:k+1+9<=j:=ae;clear h9;go_wp2;go_ret3;exact⟨rfl,rfl⟩
       ·have hM8:M<100000000:=by rw[HM.o];exact um s (k+1) s.size j Zu.o nN hje ae
        have jK:=js s (k+1) j nN BY;have kp:=ai jK;clear jK;have B4:¬ ((j:Int)-((k:Int)+1)=9):=ae;go_wp2;go_round
        case rel=>exact⟨j+1,10*M+(s[j].toNat-48),ae,ae,ae,rfl,by go_num,by simp only[Value.int.injEq,true_and];omega,ae,ai (by rw[kp.o,HM.o])⟩
        case measure=>simp[intOf];omega
      ·obtain rfl:s.size=j:=ae;have k9:=hr.out.1 ⟨ae,fun _=>ae⟩;rw[← HN.o,← HM.o] at k9;have HF:Hid (r1=(N:Int)/\r2=M/\r3=true):=ai (by simpa using k9);clear k9;go_wp2;go_ret3;exact⟨by rw[HF.o.1,HF.o.2.1,HF.o.2.2];rfl,rfl⟩
    ·have k9:=hr.out.1 ⟨ae,fun h=>by cases h⟩;rw[← HN.o] at k9;have HF:Hid (r1=(N:Int)/\r2=1/\r3=true):=ai (by simpa using k9);have he':¬ ((k:Int)<s.size):=ae;have SR:(k:Int)=s.size:=ae;clear k9;subst he;go_wp2;go_ret3;exact⟨by rw[HF.o.1,HF.o.2.1,HF.o.2.2];rfl,rfl⟩
def qZ(q:Rat):Prop:=q.num.natAbs<1000000000/\q.den<1000000000
theorem oG{s:ByteArray}{a d z:List UInt8}(h:s.data.toList=a ++ d ++ z)(hd:∀ b ∈ d,fN b=true):Ij s a.length (a.length+d.length):=by
 intro i h1 h2;have gh:s.size=(a ++ d ++ z).length:=by rw[← h,Array.length_toList];rfl
 have hi:i<s.size:=by rw[gh];simp;omega
 refine⟨hi,?_⟩;have e:s[i]=d[i-a.length]'(by omega):=by
  rw[cK s i hi];simp only[h];rw[List.getElem_append_left (by simp;omega),List.getElem_append_right ae]
 have:=(eE _).1 (hd _ (List.getElem_mem (show i-a.length<d.length by omega)));rw[e];omega
theorem rf{s:ByteArray}{a d z:List UInt8}(h:s.data.toList=a ++ d ++ z):jt s a.length (a.length+d.length)=val d:=by
 unfold jt;rw[h,List.append_assoc,List.drop_left,Nat.add_sub_cancel_left,List.take_left]
theorem iC(s:ByteArray):s.size=s.data.toList.length:=by rw[Array.length_toList];rfl
theorem Nb (q:Rat):∃ (mi fr:Bool) (a z:List UInt8),ql q=a ++ Lib.decDigits q.num.natAbs ++ z /\
    ((mi=true/\a=[45]/\q.num<0)∨(mi=false/\a=[]/\0<=q.num))/\((fr=true/\z=47 :: Lib.decDigits q.den/\q.den≠1)∨(fr=false/\z=[]/\q.den=1)):=by
 have e:∃ (mi:Bool) (a:List UInt8),zl q.num=a ++ Lib.decDigits q.num.natAbs/\((mi=true/\a=[45]/\q.num<0)∨(mi=false/\a=[]/\0<=q.num)):=by
  rcases Int.lt_or_le q.num 0 with h|h
  ·exact⟨true,[45],dM h,Or.inl ⟨rfl,rfl,h⟩⟩
  ·exact⟨false,[],dR h,Or.inr ⟨rfl,rfl,h⟩⟩
 obtain⟨mi,a,e1,e2⟩:=e;by_cases h:q.den=1
 ·exact⟨mi,false,a,[],by rw[ik h,e1,List.append_nil],e2,Or.inr ⟨rfl,rfl,h⟩⟩
 ·exact⟨mi,true,a,_,by rw[fV h,e1],e2,Or.inl ⟨rfl,rfl,h⟩⟩
theorem Ei(n:Nat):(Lib.decDigits n).length<=9 ↔ n<1000000000 :=
 ⟨fun h=>cC (k:=9) h,fun h=>dJ (k:=9) af h⟩
theorem yQ (q:Rat) {k:Nat} (w:World) (hq:QB k q) (hk:k<=9000) (r1 r2:Int) (r3:Bool) (hr:Hid ((qZ q->r1=q.num/\r2=q.den/\r3=true)/\(¬ qZ q->r1=0/\r2=0/\r3=false))) :
    Calls prog 85 #[.string (qs q)] w fun e w'=>e = .returned (.tuple #[.int .i64 r1,.int .i64 r2,.bool r3])/\w=w':=by
 have hl:=hq.len hk;obtain⟨mi,fr,a,z,e,XC,I3⟩:=Nb q;have es:(qs q).data.toList=a ++ Lib.decDigits q.num.natAbs ++ z:=by rw[iO,e]
 have hd:=di q.num.natAbs;have c8:=jV q.num.natAbs;have gh:(qs q).size=a.length+(Lib.decDigits q.num.natAbs).length+z.length:=by rw[iC,es];simp;omega
 have h0:0<(qs q).size:=ae;have yZ:=rf es;rw[gB] at yZ;have hal:a.length=if mi then 1 else 0:=by rcases XC with⟨rfl,rfl,_⟩|⟨rfl,rfl,_⟩ <;> rfl
 have jh:Ij (qs q) (a.length+(Lib.decDigits q.num.natAbs).length+1) (qs q).size/\(fr=true->jt (qs q) (a.length+(Lib.decDigits q.num.natAbs).length+1) (qs q).size=q.den):=by
  rcases I3 with⟨rfl,rfl,_⟩|⟨rfl,rfl,_⟩
  ·have es2:(qs q).data.toList=(a ++ Lib.decDigits q.num.natAbs ++ [47]) ++ Lib.decDigits q.den ++ []:=by rw[es];simp
   have h1:=oG es2 (di q.den);have h2:=rf es2;rw[gB] at h2;have e1:(a ++ Lib.decDigits q.num.natAbs ++ [47]).length=a.length+(Lib.decDigits q.num.natAbs).length+1:=by simp;omega
   rw[e1] at h1 h2;have e2:a.length+(Lib.decDigits q.num.natAbs).length+1+(Lib.decDigits q.den).length=(qs q).size:=by rw[gh];simp;omega
   rw[e2] at h1 h2;exact⟨h1,fun _=>h2⟩
  ·exact⟨fun i h1 h2=>by rw[gh] at h2;simp at h2;omega,fun h=>by cases h⟩
 have key:qZ q ↔ (a.length+(Lib.decDigits q.num.natAbs).length<=a.length+9/\(fr=true->(qs q).size<=a.length+(Lib.decDigits q.num.natAbs).length+1+9)):=by
  unfold qZ;rw[← Ei,← Ei,gh];rcases I3 with⟨rfl,rfl,_⟩|⟨rfl,rfl,h1⟩
  ·simp;omega
  ·simp only[h1,sd];simp
 refine Kn (qs q) a.length (a.length+(Lib.decDigits q.num.natAbs).length) mi fr w r1 r2 r3 hl h0 ?_ (oG es hd) ae ?_ jh.1 (ai ⟨fun h=>?_,fun h=>hr.out.2 (fun e=>h (key.1 e))⟩)
 ·rcases XC with⟨rfl,rfl,_⟩|⟨rfl,rfl,hn⟩
  ·refine Or.inl ⟨rfl,rfl,?_⟩;rw[cK _ 0 h0];simp only[es];rfl
  ·refine Or.inr ⟨rfl,rfl,?_⟩;obtain⟨_,h1,_⟩:=oG es hd 0 (by simp) (by simp;omega);omega
 ·rcases I3 with⟨rfl,rfl,_⟩|⟨rfl,rfl,_⟩
  ·refine Or.inl ⟨rfl,by rw[gh];simp,?_⟩;rw[cK _ _ (by rw[gh];simp)];simp only[es];rw[List.getElem_append_right (by simp)];simp
  ·exact Or.inr ⟨rfl,by rw[gh];simp⟩
 ·obtain⟨g1,g2,g3⟩:=hr.out.1 (key.2 h);refine⟨?_,?_,g3⟩
  ·rw[g1,yZ];rcases XC with⟨rfl,rfl,hn⟩|⟨rfl,rfl,hn⟩ <;> simp <;> omega
  ·rw[g2];rcases I3 with⟨rfl,rfl,_⟩|⟨rfl,rfl,h1⟩
   ·rw[jh.2 rfl];rfl
   ·simp[h1]
theorem dZ (q:Rat) (w:World) (h:qZ q) :
    Calls prog 85 #[.string (qs q)] w fun e w'=>e = .returned (.tuple #[.int .i64 q.num,.int .i64 q.den,.bool true])/\w=w' :=
 yQ q w (k:=9) ⟨h.1,h.2⟩ af _ _ _ (ai ⟨fun _=>⟨rfl,rfl,rfl⟩,fun h'=>absurd h h'⟩)
theorem ku (q:Rat) {k:Nat} (w:World) (hq:QB k q) (hk:k<=9000) (h:¬ qZ q) :
    Calls prog 85 #[.string (qs q)] w fun e w'=>e = .returned (.tuple #[.int .i64 0,.int .i64 0,.bool false])/\w=w' :=
 yQ q w hq hk _ _ _ (ai ⟨fun h'=>absurd h' h,fun _=>⟨rfl,rfl,rfl⟩⟩)
theorem dH{s:ByteArray}{t:ByteArray}(h:s=t):Ending.returned (.string s) = .returned (.string t):=by rw[h]
theorem Rx (n:Int) (d:Nat) (w:World) (g:Gd w) (hn:n.natAbs<=4000000000000000000) (hd:d≠0) (GF:d<=4000000000000000000) :
    Calls prog 187 #[.int .i64 n,.int .i64 d] w (aZ w (.string (qs (mkRat n d)))):=by
 have HN:=ai hn;have HD:=ai hd;have Zu:=ai GF;have HG:=ai g;clear hn hd GF g;go_enter func187,ntmps187;go_wp2;go_loopw [5,6] (fun x y W=>∃ X Y:Int,x = .int .i64 X/\y = .int .i64 Y/\Int.gcd X Y=Int.gcd n d/\X.natAbs<=4000000000000000000/\Y.natAbs<=4000000000000000000/\Ext w W)
  (fun _ y _=>(intOf y).natAbs)
 case atStart=>exact⟨n,d,rfl,rfl,rfl,HN.o,by have:=Zu.o;omega,Ext.refl _⟩
 case round =>
  obtain⟨X,Y,rfl,rfl,hg,hX,hY,hx⟩:=hrel;have JN:=ai hg;have HX:=ai hX;have HY:=ai hY;have x1:-4000000000000000000<=X:=ae;have x2:X<=4000000000000000000:=ae;have y1:-4000000000000000000<=Y:=ae;have y2:Y<=4000000000000000000:=ae;clear hg hX hY;by_cases h0:Y=0
  ·subst h0;have hf:Int.gcd n d=X.natAbs:=by rw[← JN.o,Int.gcd_zero]
   obtain⟨G,hG⟩:∃ G:Nat,G=X.natAbs:=⟨_,rfl⟩
   rw[← hG] at hf;have hG0:G≠0:=by
    intro e;rw[e] at hf;exact absurd hf (Int.gcd_ne_zero_right (by have:=HD.o;omega))
   have hdv:(G:Int)∣n:=by rw[← hf];exact Int.gcd_dvd_left _ _
   have eq:=C5 (n:=n) (d:=d) (g:=G) HD.o hf;have hGd:G<=d:=by rw[← hf];have:=Int.gcd_le_natAbs_right n (b:=(d:Int)) (by have:=HD.o;omega);simpa using this
   have HF:=ai hf;have Zs:=ai eq;have HDV:=ai hdv;have HGE:=ai hG;obtain⟨N',Uw⟩:∃ N',N'=n.tdiv G:=⟨_,rfl⟩
   obtain⟨D',hD'⟩:∃ D',D'=d / G:=⟨_,rfl⟩
   have hNa:N'.natAbs<=4000000000000000000:=by
    rw[Uw,Int.natAbs_tdiv];exact Nat.le_trans (Nat.div_le_self _ _) HN.o
   have hDa:D'<=4000000000000000000:=by rw[hD'];exact Nat.le_trans (Nat.div_le_self _ _) Zu.o
   have n1:-4000000000000000000<=N':=ae;have n2:N'<=4000000000000000000:=ae;have d2:(D':Int)<=4000000000000000000:=ae;have q1:IntKind.i64.wrap (n.tdiv G)=N':=by rw[← Uw];exact IntWalk.i64_in _ ae
   have q2:(d:Int) / (G:Int)=(D':Int):=by rw[hD'];simp
   have q3:(d:Int).tdiv (G:Int)=(D':Int):=by rw[hD'];rfl
   have q4:IntKind.i64.wrap (D':Int)=(D':Int):=IntWalk.i64_in _ ae;rw[← Uw,← hD'] at Zs;have HND:=ai (And.intro Uw hD');have qnn:1<=(G:Int):=ae;have c8:¬ (G:Int)=0:=ae;have qbA:¬ G=0:=hG0;clear hf eq hdv hG Uw hD' hNa hDa hG0 hGd;by_cases AS:X<0
   ·have eX:-X=(G:Int):=by have:=HGE.o;omega
    by_cases h1:D'=1
    ·subst h1;have e1:(⟨(jS N' 1).toArray⟩:ByteArray)=zs N':=rfl;have E1:=ai e1;clear e1;go_wp2;go_region
     all_goals
      go_wp2_with (go_at_call 193;refine cto (lO N' ae ae _ (HG.o.ext hx.drew)) fun w3 e3=>?_);go_ret;exact⟨dH (by unfold qs;rw[Zs.o];rfl),hx.drew.trans e3⟩
    ·have h1':¬ (D':Int)=1:=ae;have e1:=qB N' D';have s1:(zs N').size<=100:=by
      rw[gA];have:=jr (n:=N') (k:=19) af ae;omega
     have s2:(zs (D':Int)).size<=100:=by
      rw[gA];have:=jr (n:=(D':Int)) (k:=19) af ae;omega
     have e2:qs (mkRat n d)=zs N' ++ (⟨#[47]⟩:ByteArray) ++ zs (D':Int):=by
      rw[e1];unfold qs;rw[Zs.o];unfold jS;rw[if_neg h1]
     have E2:=ai e2;clear e1 e2 h1;go_wp2;go_region
     all_goals
      go_wp2_with (first
       | (go_at_call 193;((with_reducible refine(lO N' ae ae wr.drew (HG.o.ext hx.drew)).mono ?_);rintro e w3 ⟨rfl,e3⟩))
       | (go_at_call 193;refine cto (lO (D':Int) ae ae _ (HG.o.ext (hx.drew.trans e3))) fun w4 e4=>?_))
      go_ret;exact⟨dH E2.out.symm,(hx.drew.trans e3).trans e4⟩
   ·obtain rfl:X=(G:Int):=by have:=HGE.o;omega
    by_cases h1:D'=1
    ·subst h1;have e1:(⟨(jS N' 1).toArray⟩:ByteArray)=zs N':=rfl;have E1:=ai e1;clear e1;go_wp2;go_region
     all_goals
      go_wp2_with (go_at_call 193;refine cto (lO N' ae ae _ (HG.o.ext hx.drew)) fun w3 e3=>?_);go_ret;exact⟨dH (by unfold qs;rw[Zs.o];rfl),hx.drew.trans e3⟩
    ·have h1':¬ (D':Int)=1:=ae;have e1:=qB N' D';have s1:(zs N').size<=100:=by
      rw[gA];have:=jr (n:=N') (k:=19) af ae;omega
     have s2:(zs (D':Int)).size<=100:=by
      rw[gA];have:=jr (n:=(D':Int)) (k:=19) af ae;omega
     have e2:qs (mkRat n d)=zs N' ++ (⟨#[47]⟩:ByteArray) ++ zs (D':Int):=by
      rw[e1];unfold qs;rw[Zs.o];unfold jS;rw[if_neg h1]
     have E2:=ai e2;clear e1 e2 h1;go_wp2;go_region
     all_goals
      go_wp2_with (first
       | (go_at_call 193;((with_reducible refine(lO N' ae ae wr.drew (HG.o.ext hx.drew)).mono ?_);rintro e w3 ⟨rfl,e3⟩))
       | (go_at_call 193;refine cto (lO (D':Int) ae ae _ (HG.o.ext (hx.drew.trans e3))) fun w4 e4=>?_))
      go_ret;exact⟨dH E2.out.symm,(hx.drew.trans e3).trans e4⟩
  ·have hs:=DN X Y;have hm:=Int.natAbs_tmod X Y;have aP:=Nat.mod_lt X.natAbs (show 0<Y.natAbs by omega);have HS:=ai hs;have HL:=ai (show(X.tmod Y).natAbs<Y.natAbs by omega);clear hs hm aP;go_wp2;go_region
   all_goals
    go_roundw
    case rel=>(repeat apply Exists.intro);exact⟨⟨Y,X.tmod Y,rfl,rfl,by rw[HS.o,JN.o],HY.o,by have:=HL.o;have:=HY.o;omega,hx.drew⟩,rfl⟩
    case measure=>have:=HL.o;simpa[intOf] using this
theorem eR{q:Rat}(h:q=0):((qs q).toList == [48])=true:=by rw[jv,At.2 h];rfl
theorem cu{q:Rat}(h:q≠0):((qs q).toList == [48])=false:=by rw[jv];simpa using fun e=>h (At.1 e)
theorem M9{q:Rat}(h:q=1):((qs q).toList == [49])=true:=by rw[jv,F3.2 h];rfl
theorem rA{q:Rat}(h:q≠1):((qs q).toList == [49])=false:=by rw[jv];simpa using fun e=>h (F3.1 e)
theorem Ap(q:Rat):0<(qs q).size:=by rw[rz];exact List.length_pos_iff.2 (qaN q)
theorem I4:∀ (l:List UInt8) (h:0<l.length),((l[0].toNat:Int)=45 ↔ l.head?=some 45)
 | b :: t,_=>by
  simp only[List.getElem_cons_zero,List.head?_cons,Option.some.injEq];constructor
  ·intro e;apply UInt8.toNat_inj.1;show b.toNat=45;omega
  ·intro e;rw[e];rfl
theorem lp(q:Rat)(h:0<(qs q).size):((qs q)[0].toNat:Int)=45 ↔ q.num<0:=by
 rw[← C6,cK _ 0 h,I4,iO]
theorem AB{q:Rat}(h:q≠0):q.num≠0:=fun e=>h (Rat.num_eq_zero.1 e)
theorem cr(q:Rat)(w:World):Calls prog 31 #[.string (qs q)] w fun e w'=>e = .returned (.int .i64 q.num.sign)/\w=w':=by
 have hp:=Ap q;have hp':(0:Int)<(qs q).size:=ae;by_cases h0:q=0
 ·have h1:=eR h0;have H:Hid (q.num.sign=0):=ai (by subst h0;rfl);clear h0;go_enter func31,ntmps31;go_wp2;go_ret;exact⟨by rw[H.o];rfl,rfl⟩
 ·have h1:=cu h0;by_cases hn:q.num<0
  ·have h2:=(lp q hp).2 hn;have H:Hid (q.num.sign=-1):=ai (Int.sign_eq_neg_one_of_neg hn);clear h0 hn;go_enter func31,ntmps31;go_wp2;go_ret;exact⟨by rw[H.o];rfl,rfl⟩
  ·have h2:¬ ((qs q)[0].toNat:Int)=45:=fun e=>hn ((lp q hp).1 e)
   have H:Hid (q.num.sign=1):=ai (Int.sign_eq_one_of_pos (by have:=AB h0;omega));clear h0 hn;go_enter func31,ntmps31;go_wp2;go_ret;exact⟨by rw[H.o];rfl,rfl⟩
theorem vP{q:Rat}(h:0<q.num):(⟨#[45]⟩:ByteArray) ++ qs q=qs (-q):=by
 apply dW;rw[iO,F0 h,ByteArray.data_append,Array.toList_append,iO];rfl
theorem IF{q:Rat}(h:q.num<0):(qs q).extract 1 (qs q).size=qs (-q):=by
 apply dW;rw[ByteArray.data_extract,Array.toList_extract,iO,iO,rz,vR h];simp
theorem dS(q:Rat){k:Nat}(w:World)(hq:QB k q)(hk:k<=9000):Calls prog 62 #[.string (qs q)] w (aZ w (.string (qs (-q)))):=by
 have hp:=Ap q;have hl:=hq.len hk;have hp':(0:Int)<(qs q).size:=ae;have hp1:1<=(qs q).size:=hp;clear hq;by_cases h0:q=0
 ·have h1:=eR h0;have H:Hid (qs (-q)=qs q):=ai (by subst h0;rfl);clear h0;go_enter func62,ntmps62;go_wp2;go_ret;exact⟨dH H.o.symm,Ext.refl _⟩
 ·have h1:=cu h0;by_cases hn:q.num<0
  ·have h2:=(lp q hp).2 hn;have H:=ai (IF hn);clear h0 hn;go_enter func62,ntmps62;go_wp2;go_ret;exact⟨dH H.o,Ext.refl _⟩
  ·have h2:¬ ((qs q)[0].toNat:Int)=45:=fun e=>hn ((lp q hp).1 e)
   have H:=ai (vP (q:=q) (by have:=AB h0;omega));clear h0 hn;go_enter func62,ntmps62;go_wp2;go_ret;exact⟨dH H.o,Ext.refl _⟩
theorem CI (n D:Int) (d:Nat) (w:World) (g:Gd w) (hD:D=(d:Int)) (hn:n.natAbs<=4000000000000000000) (hd:d≠0) (GF:d<=4000000000000000000) :
    Calls prog 187 #[.int .i64 n,.int .i64 D] w (aZ w (.string (qs (mkRat n d)))):=by
 subst hD;exact Rx n d w g hn hd GF
theorem mO{a b:Int}(ha:a.natAbs<1000000000)(hb:b.natAbs<1000000000):-1000000000000000000<=a*b/\a*b<=1000000000000000000:=by
 have h:(a*b).natAbs<=1000000000*1000000000:=by rw[Int.natAbs_mul];exact Nat.mul_le_mul (Nat.le_of_lt ha) (Nat.le_of_lt hb)
 omega
theorem Dr{a b:Nat}(ha:a<1000000000)(hb:b<1000000000):a*b<=1000000000000000000:=by
 have h:a*b<=1000000000*1000000000:=Nat.mul_le_mul (Nat.le_of_lt ha) (Nat.le_of_lt hb);omega
set_option maxHeartbeats 1000000 in
theorem FX(a b:Rat)(w:World)(g:Gd w)(ha:qZ a)(hb:qZ b)(py:a≠0)(fp:b≠0):Calls prog 115 #[.string (qs a),.string (qs b)] w (aZ w (.string (qs (a+b)))):=by
 have h1:=cu py;have h2:=cu fp;have E:=ai (Rat.add_def' a b);have HA:=ai ha;have HB:=ai hb;have HG:=ai g;obtain⟨p1,p2⟩:=mO (a:=a.num) (b:=(b.den:Int)) ha.1 (by rw[Int.natAbs_natCast];exact hb.2);obtain⟨p3,p4⟩:=mO (a:=b.num) (b:=(a.den:Int)) hb.1 (by rw[Int.natAbs_natCast];exact ha.2);obtain⟨p5,p6⟩:=mO (a:=(a.den:Int)) (b:=(b.den:Int)) (by rw[Int.natAbs_natCast];exact ha.2) (by rw[Int.natAbs_natCast];exact hb.2);have p7:=Dr ha.2 hb.2;have P7:=ai p7;have P8:=ai (Nat.mul_ne_zero a.den_nz b.den_nz);have P9:=ai (Int.natCast_mul a.den b.den).symm;clear ha hb py fp g p7;go_enter func115,ntmps115;go_wp2_with (first
  | (go_at_call 85;((with_reducible refine(dZ a _ HA.o).mono ?_);rintro e w' ⟨rfl,rfl⟩))
  | (go_at_call 85;refine(dZ b _ HB.o).mono ?_;rintro e w' ⟨rfl,rfl⟩)
  | (go_at_call 187;refine cto (CI (a.num*b.den+b.num*a.den) _ (a.den*b.den) _ HG.o P9.out ae P8.out (by have:=P7.out;omega)) fun w1 e1=>?_))
 go_ret;exact⟨dH (by rw[E.out]),e1⟩
theorem M7(a b:Rat){k m:Nat}(w:World)(g:Gd w)(qa:QB k a)(qb:QB m b)(hk:k<=3000)(hm:m<=3000)(h:¬ (qZ a/\qZ b))(py:a≠0)(fp:b≠0):Calls prog 115 #[.string (qs a),.string (qs b)] w (aZ w (.string (qs (a+b)))):=by
 have h1:=cu py;have h2:=cu fp;have E:=ai (Rat.add_def' a b);have HG:=ai g;have QA:=ai qa;have mu:=ai qb;have P8:=ai (Nat.mul_ne_zero a.den_nz b.den_nz);have P9:Hid ((a.den:Int)*(b.den:Int)=((a.den*b.den:Nat):Int)):=ai (Int.natCast_mul a.den b.den).symm;have IBD:Hid (IB (k+m) ((a.den*b.den:Nat):Int)):=ai (by rw[← P9.out];exact qa.ey.mul qb.ey);clear py fp g qa qb;by_cases iM:qZ a
 ·have k8:¬ qZ b:=fun e=>h ⟨iM,e⟩
  have HA:=ai iM;have HB:=ai k8;clear h iM k8;go_enter func115,ntmps115;go_wp2_with (first
   | (go_at_call 85;((with_reducible refine(dZ a _ HA.o).mono ?_);rintro e w' ⟨rfl,rfl⟩))
   | (go_at_call 85;refine(ku b _ mu.out ae HB.o).mono ?_;rintro e w' ⟨rfl,rfl⟩)
   | (go_at_call 86;((with_reducible refine(dC a w QA.out ae).mono ?_);rintro e w1 ⟨rfl,e1⟩))
   | (go_at_call 86;refine cto (dC b w1 mu.out ae) fun w2 e2=>?_;have gv:=Ext.trans e1 e2)
   | (go_at_call 88;((with_reducible refine(jm a.num b.den w2 (HG.o.ext gv) QA.out.fM mu.out.ey ae ae).mono ?_);rintro e w3 ⟨rfl,e3⟩;have yp:=gv.trans e3))
   | (go_at_call 88;((with_reducible refine(jm b.num a.den w3 (HG.o.ext yp) mu.out.fM QA.out.ey ae ae).mono ?_);rintro e w4 ⟨rfl,e4⟩;have ub:=yp.trans e4))
   | (go_at_call 189;refine cto (Vj _ _ _ (HG.o.ext ub) (QA.out.fM.mul mu.out.ey) (mu.out.fM.mul QA.out.ey) ae ae) fun w5 e5=>?_;have jj:=ub.trans e5)
   | (go_at_call 88;refine(jm (a.den:Int) b.den _ (HG.o.ext jj) QA.out.ey mu.out.ey ae ae).mono ?_;rw[P9.out];rintro e w6 ⟨rfl,e6⟩;have zk:=jj.trans e6)
   | (go_at_call 188;refine cto (kI _ (a.den*b.den) P8.out _ (HG.o.ext zk) ((QA.out.fM.mul mu.out.ey).add (mu.out.fM.mul QA.out.ey)) IBD.out ae ae) fun w7 e7=>?_))
  go_ret;exact⟨dH (by rw[E.out]),zk.trans e7⟩
 ·have HA:=ai iM;clear h iM;go_enter func115,ntmps115;go_wp2_with (first
   | (go_at_call 85;refine(ku a _ QA.out ae HA.o).mono ?_;rintro e w' ⟨rfl,rfl⟩)
   | (go_at_call 86;((with_reducible refine(dC a w QA.out ae).mono ?_);rintro e w1 ⟨rfl,e1⟩))
   | (go_at_call 86;refine cto (dC b w1 mu.out ae) fun w2 e2=>?_;have gv:=Ext.trans e1 e2)
   | (go_at_call 88;((with_reducible refine(jm a.num b.den w2 (HG.o.ext gv) QA.out.fM mu.out.ey ae ae).mono ?_);rintro e w3 ⟨rfl,e3⟩;have yp:=gv.trans e3))
   | (go_at_call 88;((with_reducible refine(jm b.num a.den w3 (HG.o.ext yp) mu.out.fM QA.out.ey ae ae).mono ?_);rintro e w4 ⟨rfl,e4⟩;have ub:=yp.trans e4))
   | (go_at_call 189;refine cto (Vj _ _ _ (HG.o.ext ub) (QA.out.fM.mul mu.out.ey) (mu.out.fM.mul QA.out.ey) ae ae) fun w5 e5=>?_;have jj:=ub.trans e5)
   | (go_at_call 88;refine(jm (a.den:Int) b.den _ (HG.o.ext jj) QA.out.ey mu.out.ey ae ae).mono ?_;rw[P9.out];rintro e w6 ⟨rfl,e6⟩;have zk:=jj.trans e6)
   | (go_at_call 188;refine cto (kI _ (a.den*b.den) P8.out _ (HG.o.ext zk) ((QA.out.fM.mul mu.out.ey).add (mu.out.fM.mul QA.out.ey)) IBD.out ae ae) fun w7 e7=>?_))
  go_ret;exact⟨dH (by rw[E.out]),zk.trans e7⟩
theorem fU(a b:Rat){k m:Nat}(w:World)(g:Gd w)(qa:QB k a)(qb:QB m b)(hk:k<=3000)(hm:m<=3000):Calls prog 115 #[.string (qs a),.string (qs b)] w (aZ w (.string (qs (a+b)))):=by
 by_cases py:a=0
 ·have h1:=eR py;have E:Hid (qs (a+b)=qs b):=ai (by subst py;rw[Rat.zero_add]);clear py qa qb;go_enter func115,ntmps115;go_wp2;go_ret;exact⟨dH E.out.symm,Ext.refl _⟩
 ·by_cases fp:b=0
  ·have h1:=cu py;have h2:=eR fp;have E:Hid (qs (a+b)=qs a):=ai (by subst fp;rw[Rat.add_zero]);clear py fp qa qb;go_enter func115,ntmps115;go_wp2;go_ret;exact⟨dH E.out.symm,Ext.refl _⟩
  ·by_cases h:qZ a/\qZ b
   ·exact FX a b w g h.1 h.2 py fp
   ·exact M7 a b w g qa qb hk hm h py fp
set_option maxHeartbeats 1000000 in
theorem FR(a b:Rat)(w:World)(g:Gd w)(ha:qZ a)(hb:qZ b)(py:a≠0)(fp:b≠0)(ha1:a≠1)(y7:b≠1):Calls prog 116 #[.string (qs a),.string (qs b)] w (aZ w (.string (qs (a*b)))):=by
 have h1:=cu py;have h2:=cu fp;have h3:=rA ha1;have h4:=rA y7;have E:=ai (Rat.mul_def' a b);have HA:=ai ha;have HB:=ai hb;have HG:=ai g;obtain⟨p1,p2⟩:=mO (a:=a.num) (b:=b.num) ha.1 hb.1;obtain⟨p5,p6⟩:=mO (a:=(a.den:Int)) (b:=(b.den:Int)) (by rw[Int.natAbs_natCast];exact ha.2) (by rw[Int.natAbs_natCast];exact hb.2);have p7:=Dr ha.2 hb.2;have P7:=ai p7;have P8:=ai (Nat.mul_ne_zero a.den_nz b.den_nz);have P9:=ai (Int.natCast_mul a.den b.den).symm;clear ha hb py fp ha1 y7 g p7;go_enter func116,ntmps116;go_wp2_with (first
  | (go_at_call 85;((with_reducible refine(dZ a _ HA.o).mono ?_);rintro e w' ⟨rfl,rfl⟩))
  | (go_at_call 85;refine(dZ b _ HB.o).mono ?_;rintro e w' ⟨rfl,rfl⟩)
  | (go_at_call 187;refine cto (CI (a.num*b.num) _ (a.den*b.den) _ HG.o P9.out ae P8.out (by have:=P7.out;omega)) fun w1 e1=>?_))
 go_ret;exact⟨dH (by rw[E.out]),e1⟩
theorem MT(a b:Rat){k m:Nat}(w:World)(g:Gd w)(qa:QB k a)(qb:QB m b)(hk:k<=3000)(hm:m<=3000)(h:¬ (qZ a/\qZ b))(py:a≠0)(fp:b≠0)(ha1:a≠1)(y7:b≠1):Calls prog 116 #[.string (qs a),.string (qs b)] w (aZ w (.string (qs (a*b)))):=by
 have h1:=cu py;have h2:=cu fp;have h3:=rA ha1;have h4:=rA y7;have E:=ai (Rat.mul_def' a b);have HG:=ai g;have QA:=ai qa;have mu:=ai qb;have P8:=ai (Nat.mul_ne_zero a.den_nz b.den_nz);have P9:Hid ((a.den:Int)*(b.den:Int)=((a.den*b.den:Nat):Int)):=ai (Int.natCast_mul a.den b.den).symm;have IBD:Hid (IB (k+m) ((a.den*b.den:Nat):Int)):=ai (by rw[← P9.out];exact qa.ey.mul qb.ey);clear py fp ha1 y7 g qa qb;by_cases iM:qZ a
 ·have k8:¬ qZ b:=fun e=>h ⟨iM,e⟩
  have HA:=ai iM;have HB:=ai k8;clear h iM k8;go_enter func116,ntmps116;go_wp2_with (first
   | (go_at_call 85;((with_reducible refine(dZ a _ HA.o).mono ?_);rintro e w' ⟨rfl,rfl⟩))
   | (go_at_call 85;refine(ku b _ mu.out ae HB.o).mono ?_;rintro e w' ⟨rfl,rfl⟩)
   | (go_at_call 86;((with_reducible refine(dC a w QA.out ae).mono ?_);rintro e w1 ⟨rfl,e1⟩))
   | (go_at_call 86;refine cto (dC b w1 mu.out ae) fun w2 e2=>?_;have gv:=Ext.trans e1 e2)
   | (go_at_call 88;((with_reducible refine(jm a.num b.num w2 (HG.o.ext gv) QA.out.fM mu.out.fM ae ae).mono ?_);rintro e w5 ⟨rfl,e5⟩;have jj:=gv.trans e5))
   | (go_at_call 88;refine(jm (a.den:Int) b.den _ (HG.o.ext jj) QA.out.ey mu.out.ey ae ae).mono ?_;rw[P9.out];rintro e w6 ⟨rfl,e6⟩;have zk:=jj.trans e6)
   | (go_at_call 188;refine cto (kI _ (a.den*b.den) P8.out _ (HG.o.ext zk) (QA.out.fM.mul mu.out.fM) IBD.out ae ae) fun w7 e7=>?_))
  go_ret;exact⟨dH (by rw[E.out]),zk.trans e7⟩
 ·have HA:=ai iM;clear h iM;go_enter func116,ntmps116;go_wp2_with (first
   | (go_at_call 85;refine(ku a _ QA.out ae HA.o).mono ?_;rintro e w' ⟨rfl,rfl⟩)
   | (go_at_call 86;((with_reducible refine(dC a w QA.out ae).mono ?_);rintro e w1 ⟨rfl,e1⟩))
   | (go_at_call 86;refine cto (dC b w1 mu.out ae) fun w2 e2=>?_;have gv:=Ext.trans e1 e2)
   | (go_at_call 88;((with_reducible refine(jm a.num b.num w2 (HG.o.ext gv) QA.out.fM mu.out.fM ae ae).mono ?_);rintro e w5 ⟨rfl,e5⟩;have jj:=gv.trans e5))
   | (go_at_call 88;refine(jm (a.den:Int) b.den _ (HG.o.ext jj) QA.out.ey mu.out.ey ae ae).mono ?_;rw[P9.out];rintro e w6 ⟨rfl,e6⟩;have zk:=jj.trans e6)
   | (go_at_call 188;refine cto (kI _ (a.den*b.den) P8.out _ (HG.o.ext zk) (QA.out.fM.mul mu.out.fM) IBD.out ae ae) fun w7 e7=>?_))
  go_ret;exact⟨dH (by rw[E.out]),zk.trans e7⟩
theorem de(a b:Rat){k m:Nat}(w:World)(g:Gd w)(qa:QB k a)(qb:QB m b)(hk:k<=3000)(hm:m<=3000):Calls prog 116 #[.string (qs a),.string (qs b)] w (aZ w (.string (qs (a*b)))):=by
 by_cases py:a=0
 ·have h1:=eR py;have E:Hid (qs (a*b)=⟨#[48]⟩):=ai (by subst py;rw[Rat.zero_mul,df]);clear py qa qb;go_enter func116,ntmps116;go_wp2;go_ret;exact⟨dH E.out.symm,Ext.refl _⟩
 ·by_cases fp:b=0
  ·have h1:=cu py;have h2:=eR fp;have E:Hid (qs (a*b)=⟨#[48]⟩):=ai (by subst fp;rw[Rat.mul_zero,df]);clear py fp qa qb;go_enter func116,ntmps116;go_wp2;go_ret;exact⟨dH E.out.symm,Ext.refl _⟩
  ·by_cases ha1:a=1
   ·have h1:=cu py;have h2:=cu fp;have h3:=M9 ha1;have E:Hid (qs (a*b)=qs b):=ai (by subst ha1;rw[Rat.one_mul]);clear py fp ha1 qa qb;go_enter func116,ntmps116;go_wp2;go_ret;exact⟨dH E.out.symm,Ext.refl _⟩
   ·by_cases y7:b=1
    ·have h1:=cu py;have h2:=cu fp;have h3:=rA ha1;have h4:=M9 y7;have E:Hid (qs (a*b)=qs a):=ai (by subst y7;rw[Rat.mul_one]);clear py fp ha1 y7 qa qb;go_enter func116,ntmps116;go_wp2;go_ret;exact⟨dH E.out.symm,Ext.refl _⟩
    ·by_cases h:qZ a/\qZ b
     ·exact FR a b w g h.1 h.2 py fp ha1 y7
     ·exact MT a b w g qa qb hk hm h py fp ha1 y7
theorem mN(a b:Rat){k m:Nat}(w:World)(g:Gd w)(qa:QB k a)(qb:QB m b)(hk:k<=3000)(hm:m<=3000):Calls prog 117 #[.string (qs a),.string (qs b)] w (aZ w (.string (qs (a-b)))):=by
 have E:=ai (Rat.sub_eq_add_neg a b);have QA:=ai qa;have mu:=ai qb;have HG:=ai g;clear qa qb g;go_enter func117,ntmps117;go_wp2_with (first
  | (go_at_call 62;refine cto (dS b _ mu.out ae) fun w1 e1=>?_)
  | (go_at_call 115;refine cto (fU a (-b) _ (HG.o.ext e1) QA.out mu.out.neg hk hm) fun w2 e2=>?_))
 go_ret;exact⟨dH (by rw[E.out]),e1.trans e2⟩
theorem WI(b:Rat)(hb:b≠0):(⟨(jS (b.num.sign*b.den) b.num.natAbs).toArray⟩:ByteArray)=qs b⁻¹:=by
 unfold qs;rw[IG,Rat.num_inv,Rat.den_inv,if_neg (AB hb)]
theorem ye{b:Rat}(h:0<b.num):b.num.sign*b.den=b.den/\(b.num.natAbs:Int)=b.num:=by
 rw[Int.sign_eq_one_of_pos h,Int.one_mul];exact⟨rfl,ae⟩
theorem yf{b:Rat}(h:b.num<0):b.num.sign*b.den=-(b.den:Int)/\(b.num.natAbs:Int)=-b.num:=by
 rw[Int.sign_eq_neg_one_of_neg h];exact⟨ae,ae⟩
set_option maxHeartbeats 1000000 in
theorem sN(a b:Rat){k m:Nat}(w:World)(g:Gd w)(qa:QB k a)(qb:QB m b)(hk:k<=3000)(hm:m<=3000)(Un:1<=m)(fp:b≠0):Calls prog 230 #[.string (qs a),.string (qs b)] w (aZ w (.tuple #[.string (qs (a / b)),.int .i64 0])):=by
 have h1:=cu fp;have hp:=Ap b;have hp':(0:Int)<(qs b).size:=ae;have QA:=ai qa;have mu:=ai qb;have HG:=ai g;have HI:=ai (WI b fp);have HD:=ai (Rat.div_def a b);have QI:=ai (qb.inv Un);have IN:Hid (IB m b.num/\IB m (b.den:Int)):=ai ⟨qb.fM,qb.ey⟩;by_cases hn:b.num<0
 ·have h2:=(lp b hp).2 hn;obtain⟨p1,p2⟩:=yf hn;have P1:=ai p1;have P2:=ai p2;clear fp hn qa qb g p1 p2;go_enter func230,ntmps230;go_wp2_with (first
   | (go_at_call 86;refine cto (dC b _ mu.out ae) fun w1 e1=>?_)
   | (go_at_call 248;((with_reducible refine(Ue b.num _ (IN.out.1.len ae)).mono ?_);rw[← P2.out];rintro e w' ⟨rfl,rfl⟩))
   | (go_at_call 248;refine(Ue (b.den:Int) _ (IN.out.2.len ae)).mono ?_;rw[← P1.out];rintro e w' ⟨rfl,rfl⟩)
   | (go_at_call 249;refine(wG _ _ _ (by rw[P1.out];exact IN.out.2.neg) (by rw[P2.out];exact IN.out.1.neg) ae ae).mono ?_;rw[HI.o];rintro e w' ⟨rfl,rfl⟩)
   | (go_at_call 116;refine cto (de a b⁻¹ _ (HG.o.ext e1) QA.out QI.out hk hm) fun w2 e2=>?_))
  go_ret2;exact⟨by rw[HD.o];rfl,e1.trans e2⟩
 ·have h2:¬ ((qs b)[0].toNat:Int)=45:=fun e=>hn ((lp b hp).1 e)
  obtain⟨p1,p2⟩:=ye (b:=b) (by have:=AB fp;omega);have P1:=ai p1;have P2:=ai p2;clear fp hn qa qb g p1 p2;go_enter func230,ntmps230;go_wp2_with (first
   | (go_at_call 86;refine(dC b _ mu.out ae).mono ?_;rw[← P2.out,← P1.out];rintro e w1 ⟨rfl,e1⟩)
   | (go_at_call 249;refine(wG _ _ _ (by rw[P1.out];exact IN.out.2) (by rw[P2.out];exact IN.out.1) ae ae).mono ?_;rw[HI.o];rintro e w' ⟨rfl,rfl⟩)
   | (go_at_call 116;refine cto (de a b⁻¹ _ (HG.o.ext e1) QA.out QI.out hk hm) fun w2 e2=>?_))
  go_ret2;exact⟨by rw[HD.o];rfl,e1.trans e2⟩
def il(a b:Rat):Int:=if a<b then -1 else if a=b then 0 else 1
theorem yS(a b:Rat):ib (a.num*b.den) (b.num*a.den)=il a b:=by
 unfold ib il
 congr 1
 ·exact propext (Rat.lt_iff a b).symm
 ·congr 1
  exact propext Rat.eq_iff_mul_eq_mul.symm
theorem yR(a:Rat):il a a=0:=by unfold il;rw[if_neg Rat.lt_irrefl,if_pos rfl]
theorem Na{a b:Rat}(h:a=b):((qs a).toList == (qs b).toList)=true:=by subst h;exact beq_self_eq_true _
theorem FY{a b:Rat}(h:a≠b):((qs a).toList == (qs b).toList)=false:=by
 rw[jv,jv];simpa using fun e=>h (Ar e)
set_option maxHeartbeats 1000000 in
theorem vJ(a b:Rat)(w:World)(ha:qZ a)(hb:qZ b)(c8:a≠b):Calls prog 27 #[.string (qs a),.string (qs b)] w (aZ w (.int .i64 (il a b))):=by
 have h1:=FY c8;obtain⟨p1,p2⟩:=mO (a:=a.num) (b:=(b.den:Int)) ha.1 (by rw[Int.natAbs_natCast];exact hb.2);obtain⟨p3,p4⟩:=mO (a:=b.num) (b:=(a.den:Int)) hb.1 (by rw[Int.natAbs_natCast];exact ha.2);have HA:=ai ha;have HB:=ai hb;have hc:=yS a b;rcases Int.lt_trichotomy (a.num*b.den) (b.num*a.den) with h|h|h
 ·rw[mZ h] at hc;have HC:=ai hc;clear hc ha hb c8;go_enter func27,ntmps27;go_wp2_with (first
   | (go_at_call 85;((with_reducible refine(dZ a _ HA.o).mono ?_);rintro e w' ⟨rfl,rfl⟩))
   | (go_at_call 85;refine(dZ b _ HB.o).mono ?_;rintro e w' ⟨rfl,rfl⟩))
  go_ret;exact⟨by rw[← HC.o];rfl,Ext.refl _⟩
 ·exact absurd (Rat.eq_iff_mul_eq_mul.2 h) c8
 ·rw[nc h] at hc;have HC:=ai hc;have h':¬ a.num*b.den<b.num*a.den:=ae;clear hc ha hb c8;go_enter func27,ntmps27;go_wp2_with (first
   | (go_at_call 85;((with_reducible refine(dZ a _ HA.o).mono ?_);rintro e w' ⟨rfl,rfl⟩))
   | (go_at_call 85;refine(dZ b _ HB.o).mono ?_;rintro e w' ⟨rfl,rfl⟩))
  go_ret;exact⟨by rw[← HC.o];rfl,Ext.refl _⟩
theorem An(a b:Rat){k m:Nat}(w:World)(g:Gd w)(qa:QB k a)(qb:QB m b)(hk:k<=3000)(hm:m<=3000)(h:¬ (qZ a/\qZ b))(c8:a≠b):Calls prog 27 #[.string (qs a),.string (qs b)] w (aZ w (.int .i64 (il a b))):=by
 have h1:=FY c8;have QA:=ai qa;have mu:=ai qb;have HG:=ai g;have HC:=ai (yS a b);clear qa qb g c8;by_cases iM:qZ a
 ·have k8:¬ qZ b:=fun e=>h ⟨iM,e⟩
  have HA:=ai iM;have HB:=ai k8;clear h iM k8;go_enter func27,ntmps27;go_wp2_with (first
   | (go_at_call 85;((with_reducible refine(dZ a _ HA.o).mono ?_);rintro e w' ⟨rfl,rfl⟩))
   | (go_at_call 85;refine(ku b _ mu.out ae HB.o).mono ?_;rintro e w' ⟨rfl,rfl⟩)
   | (go_at_call 86;((with_reducible refine(dC a w QA.out ae).mono ?_);rintro e w1 ⟨rfl,e1⟩))
   | (go_at_call 86;refine cto (dC b w1 mu.out ae) fun w2 e2=>?_;have gv:=Ext.trans e1 e2)
   | (go_at_call 88;((with_reducible refine(jm a.num b.den w2 (HG.o.ext gv) QA.out.fM mu.out.ey ae ae).mono ?_);rintro e w3 ⟨rfl,e3⟩;have yp:=gv.trans e3))
   | (go_at_call 88;((with_reducible refine(jm b.num a.den w3 (HG.o.ext yp) mu.out.fM QA.out.ey ae ae).mono ?_);rintro e w4 ⟨rfl,e4⟩;have ub:=yp.trans e4))
   | (go_at_call 87;refine(tg _ _ _).mono ?_;rw[HC.o];rintro e w' ⟨rfl,rfl⟩))
  go_ret;exact⟨rfl,ub⟩
 ·have HA:=ai iM;clear h iM;go_enter func27,ntmps27;go_wp2_with (first
   | (go_at_call 85;refine(ku a _ QA.out ae HA.o).mono ?_;rintro e w' ⟨rfl,rfl⟩)
   | (go_at_call 86;((with_reducible refine(dC a w QA.out ae).mono ?_);rintro e w1 ⟨rfl,e1⟩))
   | (go_at_call 86;refine cto (dC b w1 mu.out ae) fun w2 e2=>?_;have gv:=Ext.trans e1 e2)
   | (go_at_call 88;((with_reducible refine(jm a.num b.den w2 (HG.o.ext gv) QA.out.fM mu.out.ey ae ae).mono ?_);rintro e w3 ⟨rfl,e3⟩;have yp:=gv.trans e3))
   | (go_at_call 88;((with_reducible refine(jm b.num a.den w3 (HG.o.ext yp) mu.out.fM QA.out.ey ae ae).mono ?_);rintro e w4 ⟨rfl,e4⟩;have ub:=yp.trans e4))
   | (go_at_call 87;refine(tg _ _ _).mono ?_;rw[HC.o];rintro e w' ⟨rfl,rfl⟩))
  go_ret;exact⟨rfl,ub⟩
theorem kD(a b:Rat){k m:Nat}(w:World)(g:Gd w)(qa:QB k a)(qb:QB m b)(hk:k<=3000)(hm:m<=3000):Calls prog 27 #[.string (qs a),.string (qs b)] w (aZ w (.int .i64 (il a b))):=by
 by_cases c8:a=b
 ·have h1:=Na c8;have HC:Hid (il a b=0):=ai (by subst c8;exact yR _);clear c8 qa qb;go_enter func27,ntmps27;go_wp2;go_ret;exact⟨by rw[HC.o];rfl,Ext.refl _⟩
 ·by_cases h:qZ a/\qZ b
  ·exact vJ a b w h.1 h.2 c8
  ·exact An a b w g qa qb hk hm h c8
theorem RT(a b:Rat):-1<=il a b/\il a b<=1:=by unfold il;split <;> (try split) <;> omega
theorem RS{a b:Rat}:il a b<0 ↔ a<b:=by
 unfold il;split
 ·rename_i h;simp[h]
 ·rename_i h;split <;> simp[h]
theorem IH{a b:Rat}:0<il a b ↔ b<a:=by
 unfold il;split
 ·rename_i h;simp;exact Rat.not_lt.2 (Rat.le_of_lt h)
 ·rename_i h;split
  ·rename_i h2;subst h2;simp
  ·rename_i h2;simp;exact Rat.lt_of_le_of_ne (Rat.not_lt.1 h) (Ne.symm h2)
def qaM(a b:Rat):Rat:=if b<a then b else a
def Aq(a b:Rat):Rat:=if a<b then b else a
theorem FT(a b:Rat){k m:Nat}(w:World)(g:Gd w)(qa:QB k a)(qb:QB m b)(hk:k<=3000)(hm:m<=3000):Calls prog 109 #[.string (qs a),.string (qs b)] w (aZ w (.string (qs (Aq a b)))):=by
 have HC:=ai (kD b a w g qb qa hm hk);obtain⟨c,hc⟩:∃ c,c=il b a:=⟨_,rfl⟩
 have Cb:=ai hc;by_cases h:a<b
 ·have h1:0<c:=by rw[hc];exact IH.2 h
  have E:Hid (qs (Aq a b)=qs b):=ai (by unfold Aq;rw[if_pos h]);clear hc h qa qb;go_enter func109,ntmps109;go_wp2_with (go_at_call 27;refine HC.o.mono ?_;rw[← Cb.o];rintro e w1 ⟨rfl,e1⟩);go_ret;exact⟨dH E.out.symm,e1⟩
 ·have h1:¬ 0<c:=by rw[hc];exact fun e=>h (IH.1 e)
  have E:Hid (qs (Aq a b)=qs a):=ai (by unfold Aq;rw[if_neg h]);clear hc h qa qb;go_enter func109,ntmps109;go_wp2_with (go_at_call 27;refine HC.o.mono ?_;rw[← Cb.o];rintro e w1 ⟨rfl,e1⟩);go_ret;exact⟨dH E.out.symm,e1⟩
theorem pd(n:Int)(h0:-9223372036854775808<=n)(h1:n<=9223372036854775807)(w:World)(g:Gd w):Calls prog 156 #[.int .i64 n] w (aZ w (.string (qs (n:Rat)))):=by
 rw[qq];have H:=ai (And.intro h0 h1);clear h0 h1;go_enter func156,ntmps156;go_wp2_with (go_at_call 168;refine(F8 n H.o.1 H.o.2 _ g).mono ?_;rintro e w' ⟨rfl,e1⟩);go_ret;exact⟨rfl,e1⟩
theorem Ud (n:Int) (d:Nat) (hd:d≠0) {k m:Nat} (w:World) (g:Gd w) (hn:IB k n) (hdb:IB m (d:Int)) (hk:k<=8000) (hm:m<=8000) :
    Calls prog 229 #[.string (zs n),.string (zs (d:Int))] w (aZ w (.tuple #[.string (qs (mkRat n d)),.int .i64 0])):=by
 have HS:Hid ((d:Int).sign=1):=ai (Int.sign_eq_one_of_pos ae);have HN:=ai hn;have HD:=ai hdb;have HDD:=ai hd;clear hn hdb hd;go_enter func229,ntmps229;go_wp2_with (first
  | (go_at_call 164;refine(ij _ _).mono ?_;rw[HS.o];rintro e w' ⟨rfl,rfl⟩)
  | (go_at_call 188;refine cto (kI n d HDD.o _ g HN.o HD.o hk hm) fun w1 e1=>?_))
 go_ret2;exact⟨rfl,e1⟩
def nC(l:List UInt8):Prop:=∃ q:Rat,l=ql q/\(Lib.decDigits q.num.natAbs).length<=200/\(Lib.decDigits q.den).length<=200
theorem lk{l:List UInt8}(h:(47:UInt8) ∉ l):nC l ↔ dz l:=by
 constructor
 ·rintro⟨q,rfl,h1,h2⟩;by_cases hd:q.den=1
  ·exact⟨q.num,ik hd,h1⟩
  ·rw[fV hd] at h;simp at h
 ·rintro⟨n,rfl,h1⟩;exact⟨(n:Rat),(sQ n).symm,by simpa using h1,by rw[Rat.den_intCast,sd];decide⟩
theorem W4(a:Int)(b:Nat)(hb:b≠0)(hg:Int.gcd a b=1):(mkRat a b).num=a/\(mkRat a b).den=b:=by
 have:=oh a b 1 hb hg;simpa using this
theorem yN {l x y:List UInt8} (hl:l=x ++ 47 :: y) (hx:(47:UInt8) ∉ x) :
    nC l ↔ ∃ (a:Int) (b:Nat),x=zl a/\y=zl (b:Int)/\(Lib.decDigits a.natAbs).length<=200/\(Lib.decDigits b).length<=200/\1<b/\a≠0/\Int.gcd a b=1:=by
 subst hl;constructor
 ·rintro⟨q,e,h1,h2⟩;by_cases hd:q.den=1
  ·rw[ik hd] at e;exact absurd (e▸fL q.num) (by simp)
  ·rw[fV hd] at e;obtain⟨e1,e2⟩:=od hx (fL _) e;refine⟨q.num,q.den,e1,by rw[fS];exact e2,h1,h2,?_,?_,?_⟩
   ·have:=q.den_nz;omega
   ·intro h0;have:=Rat.num_eq_zero.1 h0;subst this;exact hd rfl
   ·exact q.reduced
 ·rintro⟨a,b,rfl,rfl,h1,h2,h3,h4,h5⟩;obtain⟨e1,e2⟩:=W4 a b ae h5;exact⟨mkRat a b,by rw[fV ae,e1,e2,fS],by rw[e1];exact h1,by rw[e2];exact h2⟩
theorem IB.AA{n:Int}(h:(Lib.decDigits n.natAbs).length<=200):IB 200 n:=⟨cC h⟩
set_option maxHeartbeats 1000000 in
theorem vO (s x y:ByteArray) (sl:Bool) (w:World) (hc:∀ w,Calls prog 163 #[.string s,.string ⟨#[47]⟩] w (aZ w (.tuple #[.string x,.string y,.bool sl]))) (hx:¬ dz x.data.toList) :
    Calls prog 102 #[.string s] w (aZ w (.int .i64 2)):=by
 have HX:=ai hx;clear hx;go_enter func102,ntmps102;go_wp2_with (first
  | (go_at_call 163;refine cto (hc _) fun w1 e1=>?_)
  | (go_at_call 181;refine(gg x _ 2 ⟨fun h=>absurd h HX.o,fun _=>rfl⟩).mono ?_;rintro e w' ⟨rfl,rfl⟩))
 go_ret;exact⟨rfl,e1⟩
set_option maxHeartbeats 1000000 in
theorem Ao (s x y:ByteArray) (w:World) (hc:∀ w,Calls prog 163 #[.string s,.string ⟨#[47]⟩] w (aZ w (.tuple #[.string x,.string y,.bool false]))) (hx:dz x.data.toList) :
    Calls prog 102 #[.string s] w (aZ w (.int .i64 0)):=by
 have HX:=ai hx;clear hx;go_enter func102,ntmps102;go_wp2_with (first
  | (go_at_call 163;refine cto (hc _) fun w1 e1=>?_)
  | (go_at_call 181;refine(gg x _ 0 ⟨fun _=>rfl,fun h=>absurd HX.o h⟩).mono ?_;rintro e w' ⟨rfl,rfl⟩))
 go_ret;exact⟨rfl,e1⟩
set_option maxHeartbeats 1000000 in
theorem FW (s x y:ByteArray) (w:World) (hc:∀ w,Calls prog 163 #[.string s,.string ⟨#[47]⟩] w (aZ w (.tuple #[.string x,.string y,.bool true]))) (hx:dz x.data.toList) (hy:¬ dz y.data.toList) :
    Calls prog 102 #[.string s] w (aZ w (.int .i64 2)):=by
 have HX:=ai hx;have HY:=ai hy;clear hx hy;go_enter func102,ntmps102;go_wp2_with (first
  | (go_at_call 163;refine cto (hc _) fun w1 e1=>?_)
  | (go_at_call 181;((with_reducible refine(gg x w1 0 ⟨fun _=>rfl,fun h=>absurd HX.o h⟩).mono ?_);rintro e w' ⟨rfl,rfl⟩))
  | (go_at_call 181;refine(gg y _ 2 ⟨fun h=>absurd h HY.o,fun _=>rfl⟩).mono ?_;rintro e w' ⟨rfl,rfl⟩))
 go_ret;exact⟨rfl,e1⟩
theorem FV (s:ByteArray) (a b:Int) (v:Int) (w:World) (g:Gd w) (hc:∀ w,Calls prog 163 #[.string s,.string ⟨#[47]⟩] w (aZ w (.tuple #[.string (zs a),.string (zs b),.bool true])))
    (ha:(Lib.decDigits a.natAbs).length<=200) (hb:(Lib.decDigits b.natAbs).length<=200)
    (hv:(1<b/\a≠0/\Int.gcd a b=1->v=0)/\(¬ (1<b/\a≠0/\Int.gcd a b=1)->v=2)) :
    Calls prog 102 #[.string s] w (aZ w (.int .i64 v)):=by
 have HA:=ai (IB.AA ha);have HB:=ai (IB.AA hb);have RA:Hid (dz (zs a).data.toList):=ai (by rw[dA];exact ru.2 ha);have RB:Hid (dz (zs b).data.toList):=ai (by rw[dA];exact ru.2 hb);have one:zs 1=⟨#[49]⟩:=j3;have Cb:Hid (∀ w,Calls prog 87 #[.string (zs b),.string ⟨#[49]⟩] w fun e w'=>e = .returned (.int .i64 (ib b 1))/\w=w'):=ai (fun w=>by have:=tg b 1 w;rw[one] at this;exact this);clear one ha hb;obtain⟨c,GG⟩:∃ c,c=ib b 1:=⟨_,rfl⟩
 have BU:=ai GG;by_cases h1:1<b
 ·have I5:¬ c<=0:=by rw[GG,nc h1];omega
  by_cases h2:a=0
  ·have pw:=hv.2 (fun h=>h.2.1 h2);have HV:=ai pw;have z1:=sD h2;clear hv pw GG h1 h2;go_enter func102,ntmps102;go_wp2_with (first
    | (go_at_call 163;refine cto (hc _) fun w1 e1=>?_)
    | (go_at_call 181;((with_reducible refine(gg (zs a) w1 0 ⟨fun _=>rfl,fun h=>absurd RA.out h⟩).mono ?_);rintro e w' ⟨rfl,rfl⟩))
    | (go_at_call 181;refine(gg (zs b) _ 0 ⟨fun _=>rfl,fun h=>absurd RB.out h⟩).mono ?_;rintro e w' ⟨rfl,rfl⟩)
    | (go_at_call 87;refine(Cb.o _).mono ?_;rw[← BU.o];rintro e w' ⟨rfl,rfl⟩))
   go_ret;exact⟨by rw[HV.o];rfl,e1⟩
  ·have z1:=ki h2;obtain⟨G,hG⟩:∃ G:Nat,G=Int.gcd a b:=⟨_,rfl⟩
   have HG:=ai hG;by_cases h3:(G:Int)=1
   ·have pw:=hv.1 ⟨h1,h2,ae⟩;have HV:=ai pw;have z3:=zQ h3;have z4:=zP h3;clear hv pw GG h1 h2 h3 hG;go_enter func102,ntmps102;go_wp2_with (first
     | (go_at_call 163;refine cto (hc _) fun w1 e1=>?_)
     | (go_at_call 181;((with_reducible refine(gg (zs a) w1 0 ⟨fun _=>rfl,fun h=>absurd RA.out h⟩).mono ?_);rintro e w' ⟨rfl,rfl⟩))
     | (go_at_call 181;refine(gg (zs b) _ 0 ⟨fun _=>rfl,fun h=>absurd RB.out h⟩).mono ?_;rintro e w' ⟨rfl,rfl⟩)
     | (go_at_call 87;refine(Cb.o _).mono ?_;rw[← BU.o];rintro e w' ⟨rfl,rfl⟩)
     | (go_at_call 182;refine(pY a b _ (g.ext e1) HA.o HB.o af af).mono ?_;rw[← HG.o];rintro e w2 ⟨rfl,e2⟩))
    go_ret;exact⟨by rw[HV.o];rfl,e1.trans e2⟩
   ·have pw:=hv.2 (fun h=>h3 (by have:=h.2.2;omega));have HV:=ai pw;have z3:=uj h3;have z4:=uS h3;clear hv pw GG h1 h2 h3 hG;go_enter func102,ntmps102;go_wp2_with (first
     | (go_at_call 163;refine cto (hc _) fun w1 e1=>?_)
     | (go_at_call 181;((with_reducible refine(gg (zs a) w1 0 ⟨fun _=>rfl,fun h=>absurd RA.out h⟩).mono ?_);rintro e w' ⟨rfl,rfl⟩))
     | (go_at_call 181;refine(gg (zs b) _ 0 ⟨fun _=>rfl,fun h=>absurd RB.out h⟩).mono ?_;rintro e w' ⟨rfl,rfl⟩)
     | (go_at_call 87;refine(Cb.o _).mono ?_;rw[← BU.o];rintro e w' ⟨rfl,rfl⟩)
     | (go_at_call 182;refine(pY a b _ (g.ext e1) HA.o HB.o af af).mono ?_;rw[← HG.o];rintro e w2 ⟨rfl,e2⟩))
    go_ret;exact⟨by rw[HV.o];rfl,e1.trans e2⟩
 ·have I5:c<=0:=by
   rw[GG];by_cases h:b=1
   ·subst h;rw[uG];omega
   ·rw[mZ ae];omega
  have pw:=hv.2 (fun h=>h1 h.1);have HV:=ai pw;clear hv pw GG h1;go_enter func102,ntmps102;go_wp2_with (first
   | (go_at_call 163;refine cto (hc _) fun w1 e1=>?_)
   | (go_at_call 181;((with_reducible refine(gg (zs a) w1 0 ⟨fun _=>rfl,fun h=>absurd RA.out h⟩).mono ?_);rintro e w' ⟨rfl,rfl⟩))
   | (go_at_call 181;refine(gg (zs b) _ 0 ⟨fun _=>rfl,fun h=>absurd RB.out h⟩).mono ?_;rintro e w' ⟨rfl,rfl⟩)
   | (go_at_call 87;refine(Cb.o _).mono ?_;rw[← BU.o];rintro e w' ⟨rfl,rfl⟩))
  go_ret;exact⟨by rw[HV.o];rfl,e1⟩
theorem vN (s:ByteArray) (w:World) (g:Gd w) (v:Int) (hl:s.size<=1000000) (hv:(nC s.data.toList->v=0)/\(¬ nC s.data.toList->v=2)) :
    Calls prog 102 #[.string s] w (aZ w (.int .i64 v)):=by
 rcases tC s.data.toList with hn|⟨x,y,hs,hx⟩
 ·have hc:=fun w=>Ek s w hn
  by_cases h:dz s.data.toList
  ·rw[hv.1 ((lk hn).2 h)];exact Ao s s _ w hc h
  ·rw[hv.2 (fun e=>h ((lk hn).1 e))];exact vO s s _ false w hc h
 ·have hc:=fun w=>Pb s x y w hs hx hl
  have hq:=yN hs hx;by_cases h1:dz x
  ·by_cases h2:dz y
   ·obtain⟨a,rfl,ha⟩:=h1;obtain⟨b,rfl,hb⟩:=h2;refine FV s a b v w g hc ha hb ⟨fun⟨k1,k2,k3⟩=>hv.1 (hq.2 ⟨a,b.natAbs,rfl,?_,ha,hb,ae,k2,?_⟩),fun hh=>hv.2 (fun e=>hh ?_)⟩
    ·rw[show((b.natAbs:Nat):Int)=b by omega]
    ·rw[show((b.natAbs:Nat):Int)=b by omega];exact k3
    ·obtain⟨a',b',e1,e2,_,_,k1,k2,k3⟩:=hq.1 e;have:=mH e1;have:=mH e2
     subst_vars
     exact⟨ae,k2,k3⟩
   ·rw[hv.2 (fun e=>by obtain⟨a,b,e1,e2,_,h4,_⟩:=hq.1 e;exact h2 ⟨b,e2,by simpa using h4⟩)];exact FW s ⟨x.toArray⟩ ⟨y.toArray⟩ w hc (by simpa using h1) (by simpa using h2)
  ·rw[hv.2 (fun e=>by obtain⟨a,b,e1,e2,h3,_⟩:=hq.1 e;exact h1 ⟨a,e1,h3⟩)];exact vO s ⟨x.toArray⟩ ⟨y.toArray⟩ true w hc (by simpa using h1)
theorem Ki (s t:ByteArray) (w:World) (h:0<s.size) (h2:(s[0].toNat:Int)=45) (ht:s.extract 1 s.size=t) :
    Calls prog 149 #[.string s] w (aZ w (.tuple #[.bool true,.string t])):=by
 have hp':(0:Int)<s.size:=ae;have hp1:1<=s.size:=h;have HT:=ai ht;clear ht;go_enter func149,ntmps149;go_wp2;go_region
 all_goals
  go_wp2;go_ret2;exact⟨by rw[← HT.o];rfl,(Ext.refl _).drew⟩
theorem Kh (s:ByteArray) (w:World) (h:0<s.size) (h2:¬ (s[0].toNat:Int)=45) :
    Calls prog 149 #[.string s] w (aZ w (.tuple #[.bool false,.string s])):=by
 have hp':(0:Int)<s.size:=ae;go_enter func149,ntmps149;go_wp2;go_ret2;exact⟨rfl,Ext.refl _⟩
theorem Cw (s:ByteArray) (w:World) (h:¬ (0:Int)<s.size) :
    Calls prog 149 #[.string s] w (aZ w (.tuple #[.bool false,.string s])):=by
 go_enter func149,ntmps149;go_wp2;go_ret2;exact⟨rfl,Ext.refl _⟩
theorem sK(s:ByteArray)(w:World):Calls prog 149 #[.string s] w (aZ w (.tuple #[.bool (Lib.hasPrefix s.data.toList [45]),.string ⟨(Lib.trimPrefix s.data.toList [45]).toArray⟩])):=by
 have gh:=iC s;rcases mL s.data.toList with⟨t,e,e1,e2⟩|⟨h0,e1,e2⟩
 ·rw[e1,e2];have h:0<s.size:=by rw[gh,e];simp
  refine Ki s _ w h ?_ ?_
  ·rw[cK _ 0 h];simp only[e];rfl
  ·apply dW;rw[ByteArray.data_extract,Array.toList_extract,e,gh,e];simp
 ·rw[e1,e2,← Pv s];by_cases h:0<s.size
  ·refine Kh s w h ?_;rw[cK _ 0 h,I4];intro e;cases hl:s.data.toList with
   | nil=>rw[hl] at e;simp at e
   | cons b t=>rw[hl] at e;simp at e;subst e;exact h0 t hl
  ·exact Cw s w ae
theorem a6(n:Int)(w:World):Calls prog 149 #[.string (zs n)] w (aZ w (.tuple #[.bool (decide (n<0)),.string (zs (n.natAbs:Int))])):=by
 have:=sK (zs n) w;rw[dA,GK,z7] at this;rw[show zs (n.natAbs:Int)=⟨(Lib.decDigits n.natAbs).toArray⟩ by unfold zs;rw[fS]];exact this
theorem S7(n:Int)(w:World):Calls prog 144 #[.string (zs n)] w (aZ w (.int .i64 n.sign)):=by
 obtain⟨B,hB⟩:∃ B,B=decide (n<0):=⟨_,rfl⟩
 have HB:=ai hB;rcases Int.lt_trichotomy n 0 with h|h|h
 ·have hb:B=true:=by rw[hB];simpa using h
  subst hb;have H:Hid (n.sign=-1):=ai (Int.sign_eq_neg_one_of_neg h);clear hB h;go_enter func144,ntmps144;go_wp2_with (go_at_call 149;refine(a6 n _).mono ?_;rw[← HB.o];rintro e w1 ⟨rfl,e1⟩);go_ret;exact⟨by rw[H.o];rfl,e1⟩
 ·have hb:B=false:=by rw[hB];simp;omega
  subst hb;have h1:=sD h;have H:Hid (n.sign=0):=ai (by rw[h];rfl);clear hB h;go_enter func144,ntmps144;go_wp2_with (go_at_call 149;refine(a6 n _).mono ?_;rw[← HB.o];rintro e w1 ⟨rfl,e1⟩);go_ret;exact⟨by rw[H.o];rfl,e1⟩
 ·have hb:B=false:=by rw[hB];simp;omega
  subst hb;have h1:=ki (n:=n) ae;have H:Hid (n.sign=1):=ai (Int.sign_eq_one_of_pos h);clear hB h;go_enter func144,ntmps144;go_wp2_with (go_at_call 149;refine(a6 n _).mono ?_;rw[← HB.o];rintro e w1 ⟨rfl,e1⟩);go_ret;exact⟨by rw[H.o];rfl,e1⟩
theorem X3(n:Int)(w:World)(hl:(zl n).length<=100000):Calls prog 261 #[.string (zs n)] w (aZ w (.string (zs (-n)))):=by
 obtain⟨B,hB⟩:∃ B,B=decide (n<0):=⟨_,rfl⟩
 have HB:=ai hB;have hl2:(zs (n.natAbs:Int)).size<=100000:=by
  rw[cI];have:=J8 n;rcases Int.lt_or_le n 0 with h|h
  ·rw[dM h] at hl;simp at hl;omega
  ·rw[dR h] at hl;exact hl
 rcases Int.lt_trichotomy n 0 with h|h|h
 ·have hb:B=true:=by rw[hB];simpa using h
  subst hb;have H:Hid ((n.natAbs:Int)=-n):=ai ae;clear hB h;go_enter func261,ntmps261;go_wp2_with (go_at_call 149;refine(a6 n _).mono ?_;rw[← HB.o];rintro e w1 ⟨rfl,e1⟩);go_ret;exact⟨cF H.o,e1⟩
 ·have hb:B=false:=by rw[hB];simp;omega
  subst hb;have h1:=sD h;have H:Hid ((n.natAbs:Int)=-n):=ai ae;clear hB h;go_enter func261,ntmps261;go_wp2_with (go_at_call 149;refine(a6 n _).mono ?_;rw[← HB.o];rintro e w1 ⟨rfl,e1⟩);go_ret;exact⟨cF H.o,e1⟩
 ·have hb:B=false:=by rw[hB];simp;omega
  subst hb;have h1:=ki (n:=n) ae;have H:Hid ((⟨#[45]⟩:ByteArray) ++ zs (n.natAbs:Int)=zs (-n)):=ai (by rw[show(n.natAbs:Int)=n by omega];exact qh h);clear hB h;go_enter func261,ntmps261;go_wp2_with (go_at_call 149;refine(a6 n _).mono ?_;rw[← HB.o];rintro e w1 ⟨rfl,e1⟩);go_ret;exact⟨dH H.o,e1⟩
theorem OU(n:Int)(w:World):Calls prog 218 #[.string (zs n)] w (aZ w (.string (zs (n.natAbs:Int)))):=by
 go_enter func218,ntmps218;go_wp2_with (go_at_call 149;refine cto (a6 n _) fun w1 e1=>?_);go_ret;exact⟨rfl,e1⟩
theorem wZ(n:Int)(h0:-9223372036854775808<=n)(h1:n<=9223372036854775807)(w:World)(g:Gd w):Calls prog 119 #[.int .i64 n] w (aZ w (.string (zs n))):=by
 have H:=ai (And.intro h0 h1);clear h0 h1;go_enter func119,ntmps119;go_wp2_with (go_at_call 193;refine(lO n H.o.1 H.o.2 _ g).mono ?_;rintro e w' ⟨rfl,e1⟩);go_ret;exact⟨rfl,e1⟩
theorem RQ(d:Int)(h0:0<=d)(h9:d<=9):(-9223372036854775808+d).tdiv 10<=-922337203685477579:=by
 rw[show(-9223372036854775808+d)=-(9223372036854775808-d) by omega,Int.neg_tdiv,Int.tdiv_eq_ediv_of_nonneg ae];omega
theorem M8(d:Int)(h0:0<=d)(h9:d<=9):-9223372036854775808<=(-9223372036854775808+d).tdiv 10:=by
 rw[show(-9223372036854775808+d)=-(9223372036854775808-d) by omega,Int.neg_tdiv,Int.tdiv_eq_ediv_of_nonneg ae];omega
theorem wY(n:Int)(w:World)(hl:n.natAbs<1000000000000000000):Calls prog 150 #[.string (zs n)] w (aZ w (.tuple #[.int .i64 n,.bool true])):=by
 obtain⟨B,hB⟩:∃ B,B=decide (n<0):=⟨_,rfl⟩
 have HB:=ai hB;obtain⟨s,hs⟩:∃ s,s=zs (n.natAbs:Int):=⟨_,rfl⟩
 have HS:=ai hs;have tI:s.data.toList=[] ++ Lib.decDigits n.natAbs ++ []:=by rw[hs,dA,fS];simp
 have hd:=oG tI (di _);have yZ:=rf tI;have gh:s.size=(Lib.decDigits n.natAbs).length:=by rw[hs,cI]
 simp only[List.length_nil,Nat.zero_add] at hd yZ;rw[← gh] at hd yZ;rw[gB] at yZ;have qmq:s.size<=18:=by rw[gh];exact dJ (k:=18) af hl
 have HD:=ai hd;have HV:=ai yZ;clear hs tI hd yZ gh hB;go_enter func150,ntmps150;go_wp2_with (go_at_call 149;refine(a6 n _).mono ?_;rw[← HB.o,← HS.o];rintro e w1 ⟨rfl,e1⟩);go_loop [6,7] (fun m i=>∃ (k N:Nat),k<=s.size/\i = .int .i64 k/\m = .int .i64 (-(N:Int))/\N<1000000000000000000/\Hid (N=jt s 0 k)) (fun _ i=>s.size-(intOf i).toNat)
 case atStart=>exact⟨0,0,Nat.zero_le _,rfl,rfl,ae,ai (eP s 0).symm⟩
 case round =>
  obtain⟨k,N,hk,rfl,rfl,hN,HN⟩:=hrel;by_cases aP:k<s.size
  ·obtain⟨_,d1,d2⟩:=HD.o k (Nat.zero_le _) aP;have jK:=js s 0 k (Nat.zero_le _) aP;have hb:N<100000000000000000:=by
    rw[HN.o];have h1:=uk s 0 s.size k HD.o (Nat.zero_le _) hk;have h2:10 ^ (k-0)<=10 ^ 17:=Nat.pow_le_pow_right af ae;exact Nat.lt_of_lt_of_le h1 h2
   have kp:=ai jK;have q1:=RQ ((s[k].toNat:Int)-48) ae ae;have q2:=M8 ((s[k].toNat:Int)-48) ae ae;obtain⟨q,hq⟩:∃ q,q=(-9223372036854775808+((s[k].toNat:Int)-48)).tdiv 10:=⟨_,rfl⟩
   clear jK;go_wp2;go_round
   case rel=>exact⟨k+1,10*N+(s[k].toNat-48),ae,by go_num,by simp only[Value.int.injEq,true_and];omega,ae,ai (by rw[kp.o,HN.o])⟩
   case measure=>simp[intOf];omega
  ·obtain rfl:s.size=k:=ae;have Uw:N=n.natAbs:=by rw[HN.o,HV.o]
   have uh:=ai Uw;clear Uw;cases B
   ·have hn:¬ n<0:=of_decide_eq_false HB.o.symm;have E:Hid ((N:Int)=n):=ai (by have:=uh.o;omega);clear hn;go_wp2;go_ret2;exact⟨by rw[← E.out];simp,e1⟩
   ·have hn:n<0:=of_decide_eq_true HB.o.symm;have E:Hid (-(N:Int)=n):=ai (by have:=uh.o;omega);clear hn;go_wp2;go_ret2;exact⟨by rw[← E.out];rfl,e1⟩
theorem ck(n:Int)(w:World)(h:(Lib.decDigits n.natAbs).length<=17):Calls prog 219 #[.string (zs n)] w (aZ w (.tuple #[.int .i64 n,.bool true])):=by
 have hs:¬ (17:Int)<(zs (n.natAbs:Int)).size:=by rw[cI];omega
 have H:=ai (cC h);clear h;go_enter func219,ntmps219;go_wp2_with (first
  | (go_at_call 149;refine cto (a6 n _) fun w1 e1=>?_)
  | (go_at_call 150;refine cto (wY n _ (Nat.lt_of_lt_of_le H.o af)) fun w2 e2=>?_))
 go_ret2;exact⟨rfl,e1.trans e2⟩
theorem b8(n:Int)(w:World)(h:¬ (Lib.decDigits n.natAbs).length<=17):Calls prog 219 #[.string (zs n)] w (aZ w (.tuple #[.int .i64 0,.bool false])):=by
 have hs:(17:Int)<(zs (n.natAbs:Int)).size:=by rw[cI];omega
 go_enter func219,ntmps219;go_wp2_with (first
  | (go_at_call 149;refine cto (a6 n _) fun w1 e1=>?_))
 go_ret2;exact⟨rfl,e1⟩
theorem Pj (a s:ByteArray) (mi v:Bool) (w:World) (hc:∀ w,Calls prog 149 #[.string a] w (aZ w (.tuple #[.bool mi,.string s]))) (hs:s.size<=1000000)
    (hv:Hid ((¬ Dg s->v=false)/\(Dg s->(s.size=0->v=false)/\(∀ h:0<s.size,((s[0].toNat:Int)=48->(mi=true∨1<s.size)->v=false)/\((s[0].toNat:Int)=48->mi=false->s.size<=1->v=true)/\(¬ (s[0].toNat:Int)=48->v=true))))) :
    Calls prog 216 #[.string a] w (aZ w (.bool v)):=by
 go_enter func216,ntmps216;go_wp2_with (go_at_call 149;refine cto (hc _) fun w1 e1=>?_);go_loop [5] (fun i=>∃ k:Nat,k<=s.size/\i = .int .i64 k/\Hid (∀ j (h:j<s.size),j<k->48<=(s[j].toNat:Int)/\(s[j].toNat:Int)<=57)) (fun i=>s.size-(intOf i).toNat)
 case atStart=>exact⟨0,Nat.zero_le _,rfl,ai (fun j h h'=>ae)⟩
 case round =>
  obtain⟨k,hk,rfl,SS⟩:=hrel;by_cases aP:k<s.size
  ·rcases Int.lt_or_le (s[k].toNat:Int) 48 with hd|hd
   ·have e2:v=false:=hv.out.1 (fun h=>by have:=(h k aP).1;omega);have E2:=ai e2;clear e2;go_wp2;go_ret;exact⟨by rw[E2.out];rfl,e1⟩
   ·rcases Int.lt_or_le 57 (s[k].toNat:Int) with GF|GF
    ·have e2:v=false:=hv.out.1 (fun h=>by have:=(h k aP).2;omega);have E2:=ai e2;clear e2;go_wp2;go_ret;exact⟨by rw[E2.out];rfl,e1⟩
    ·have HD:=ai (And.intro hd GF);go_wp2;go_round
     case rel=>exact⟨k+1,ae,by go_num,ai (fun j h h'=>by
      by_cases e:j=k
      ·subst e;exact HD.o
      ·exact SS.out j h ae)⟩
     case measure=>simp[intOf];omega
  ·have pS:=hv.out.2 (fun j h=>SS.out j h ae);have QG:=ai pS;clear pS;by_cases h0:s.size=0
   ·have E2:=ai (QG.o.1 h0);have h0':(s.size:Int)=0:=ae;clear h0;go_wp2;go_ret;exact⟨by rw[E2.out];rfl,e1⟩
   ·have h1:0<s.size:=ae;have h1':(0:Int)<s.size:=ae;have h0':¬ (s.size:Int)=0:=ae;by_cases XV:(s[0].toNat:Int)=48
    ·cases mi
     ·by_cases h2:1<s.size
      ·have E2:=ai ((QG.o.2 h1).1 XV (Or.inr h2));have h2':(1:Int)<s.size:=ae;go_wp2;go_ret;exact⟨by rw[E2.out];rfl,e1⟩
      ·have E2:=ai ((QG.o.2 h1).2.1 XV rfl ae);have h2':¬ (1:Int)<s.size:=ae;go_wp2;go_ret;exact⟨by rw[E2.out];rfl,e1⟩
     ·have E2:=ai ((QG.o.2 h1).1 XV (Or.inl rfl));go_wp2;go_ret;exact⟨by rw[E2.out];rfl,e1⟩
    ·have E2:=ai ((QG.o.2 h1).2.2 XV);go_wp2;go_ret;exact⟨by rw[E2.out];rfl,e1⟩
def xX(l:List UInt8):Prop:=∃ n:Int,l=zl n
theorem zB (l t:List UInt8) (mi:Bool) (ht:Lib.trimPrefix l [45]=t) (hm:Lib.hasPrefix l [45]=mi) :
    xX l ↔ t≠[]/\(t.head?≠some 48∨(t.length=1/\mi=false))/\∀ b ∈ t,fN b=true:=by
 rcases mL l with⟨t',rfl,h1,h2⟩|⟨h0,h1,h2⟩
 ·obtain rfl:t'=t:=by rw[← h1,ht]
  obtain rfl:mi=true:=by rw[← hm,h2]
  constructor
  ·rintro⟨n,hn⟩;have AS:n<0:=by rw[← lf,← hn];rfl
   rw[dM AS] at hn;have e:=(List.cons.inj hn).2;obtain⟨b,r,e2,hb⟩:=mm n.natAbs ae;exact⟨by rw[e];exact kN _,Or.inl (by rw[e,e2];simpa using hb),by rw[e];exact di _⟩
  ·rintro⟨g1,g3,g4⟩;have X1:t'.head?≠some 48:=by
    rcases g3 with g|⟨_,g⟩
    ·exact g
    ·cases g
   have e:=iG t' g1 g4 (Or.inl X1);have hp:val t'≠0:=by intro hv;rw[hv,kK] at e;rw[← e] at X1;simp at X1
   exact⟨-(val t':Int),by rw[dM ae,Int.natAbs_neg,Int.natAbs_natCast,e]⟩
 ·obtain rfl:l=t:=by rw[← h1,ht]
  obtain rfl:mi=false:=by rw[← hm,h2]
  constructor
  ·rintro⟨n,hn⟩;have AS:0<=n:=by
    rcases Int.lt_or_le n 0 with h|h
    ·rw[dM h] at hn;exact absurd hn (h0 _)
    ·exact h
   rw[dR AS] at hn;refine⟨by rw[hn];exact kN _,?_,by rw[hn];exact di _⟩;by_cases hz:n.natAbs=0
   ·right;rw[hn,hz,kK];exact⟨rfl,rfl⟩
   ·left;obtain⟨b,r,e2,hb⟩:=mm n.natAbs hz;rw[hn,e2];simpa using hb
  ·rintro⟨g1,g3,g4⟩;have e:=iG l g1 g4 (by
    rcases g3 with g|⟨g,_⟩
    ·exact Or.inl g
    ·obtain⟨b,rfl⟩:=List.length_eq_one_iff.1 g;by_cases hb:b=48
     ·right;rw[hb]
     ·left;simp[hb])
   exact⟨(val l:Int),by rw[fS,e]⟩
theorem SQ:∀ (l:List UInt8) (h:0<l.length),((l[0].toNat:Int)=48 ↔ l.head?=some 48)
 | b :: t,_=>by
  simp only[List.getElem_cons_zero,List.head?_cons,Option.some.injEq];constructor
  ·intro e;apply UInt8.toNat_inj.1;show b.toNat=48;omega
  ·intro e;rw[e];rfl
theorem Jv (a:ByteArray) (v:Bool) (w:World) (hs:a.size<=1000000) (hv:(xX a.data.toList->v=true)/\(¬ xX a.data.toList->v=false)) :
    Calls prog 216 #[.string a] w (aZ w (.bool v)):=by
 obtain⟨t,ht⟩:∃ t,Lib.trimPrefix a.data.toList [45]=t:=⟨_,rfl⟩
 obtain⟨mi,hm⟩:∃ mi,Lib.hasPrefix a.data.toList [45]=mi:=⟨_,rfl⟩
 have hc:=sK a;rw[ht,hm] at hc;have wM:=zB a.data.toList t mi ht hm;obtain⟨s,jK⟩:∃ s:ByteArray,s=⟨t.toArray⟩:=⟨_,rfl⟩
 rw[← jK] at hc;have hl:s.data.toList=t:=by rw[jK]
 have gh:s.size=t.length:=by rw[iC,hl]
 have Z7:t.length<=a.data.toList.length:=by
  rcases mL a.data.toList with⟨t',e,e1,_⟩|⟨_,e1,_⟩
  ·rw[← ht,e1,e];simp
  ·rw[← ht,e1];exact Nat.le_refl _
 clear jK;have SS:Dg s ↔ ∀ b ∈ t,fN b=true:=by rw[G8,hl]
 refine Pj a s mi v w hc (by rw[← iC a] at Z7;omega) (ai ⟨fun h=>hv.2 (fun e=>h (SS.2 (wM.1 e).2.2)),fun h=>⟨fun h0=>hv.2 (fun e=>(wM.1 e).1 (List.length_eq_zero_iff.1 ae)),fun h1=>?_⟩⟩);have XV:(s[0].toNat:Int)=48 ↔ t.head?=some 48:=by rw[cK _ 0 h1,SQ,hl]
 have c8:t≠[]:=by intro e;rw[e,List.length_nil] at gh;omega
 refine⟨fun e hh=>hv.2 (fun hc=>?_),fun e rQ h2=>hv.1 (wM.2 ⟨c8,Or.inr ⟨ae,rQ⟩,SS.1 h⟩),fun e=>hv.1 (wM.2 ⟨c8,Or.inl (fun hh=>e (XV.2 hh)),SS.1 h⟩)⟩;rcases (wM.1 hc).2.1 with k|⟨k1,k2⟩
 ·exact k (XV.1 e)
 ·rcases hh with hh|hh
  ·rw[k2] at hh;cases hh
  ·omega
theorem Ak(l t:List UInt8)(ht:Lib.trimPrefix l [45]=t):dz l ↔ xX l/\t.length<=200:=by
 have h1:=yM l t _ ht rfl;have h2:=zB l t _ ht rfl;rw[h1,h2];constructor
 ·rintro⟨a,b,c,d⟩;exact⟨⟨a,c,d⟩,b⟩
 ·rintro⟨⟨a,c,d⟩,b⟩;exact⟨a,b,c,d⟩
theorem fD (a:ByteArray) (v:Bool) (w:World) (hs:a.size<=1000000) (hv:(dz a.data.toList->v=true)/\(¬ dz a.data.toList->v=false)) :
    Calls prog 145 #[.string a] w (aZ w (.bool v)):=by
 obtain⟨t,ht⟩:∃ t,Lib.trimPrefix a.data.toList [45]=t:=⟨_,rfl⟩
 obtain⟨mi,hm⟩:∃ mi,Lib.hasPrefix a.data.toList [45]=mi:=⟨_,rfl⟩
 have hc:=sK a;rw[ht,hm] at hc;have Xv:=Ak a.data.toList t ht;obtain⟨s,jK⟩:∃ s:ByteArray,s=⟨t.toArray⟩:=⟨_,rfl⟩
 rw[← jK] at hc;have gh:s.size=t.length:=by rw[iC,jK]
 clear jK;have HC:=ai hc;by_cases h1:xX a.data.toList
 ·have K:=ai (fun w=>Jv a true w hs ⟨fun _=>rfl,fun h=>absurd h1 h⟩);by_cases h2:t.length<=200
  ·have E:=ai (hv.1 (Xv.2 ⟨h1,h2⟩));have h2':(s.size:Int)<=200:=ae;clear hv Xv hc h1 h2 gh ht hm;go_enter func145,ntmps145;go_wp2_with (first
    | (go_at_call 149;refine cto (HC.o _) fun w1 e1=>?_)
    | (go_at_call 216;refine cto (K.out _) fun w2 e2=>?_))
   go_ret;exact⟨by rw[E.out];rfl,e1.trans e2⟩
  ·have E:=ai (hv.2 (fun h=>h2 (Xv.1 h).2));have h2':¬ (s.size:Int)<=200:=ae;have qnk:decide ((s.size:Int)<=200)=false:=by simpa using h2'
   clear hv Xv hc h1 h2 gh ht hm;go_enter func145,ntmps145;go_wp2_with (first
    | (go_at_call 149;refine cto (HC.o _) fun w1 e1=>?_)
    | (go_at_call 216;refine cto (K.out _) fun w2 e2=>?_))
   go_ret;exact⟨by rw[E.out];rfl,e1.trans e2⟩
 ·have K:=ai (fun w=>Jv a false w hs ⟨fun h=>absurd h h1,fun _=>rfl⟩);have E:=ai (hv.2 (fun h=>h1 (Xv.1 h).1));clear hv Xv hc h1 gh ht hm;go_enter func145,ntmps145;go_wp2_with (first
   | (go_at_call 149;refine cto (HC.o _) fun w1 e1=>?_)
   | (go_at_call 216;refine cto (K.out _) fun w2 e2=>?_))
  go_ret;exact⟨by rw[E.out];rfl,e1.trans e2⟩
def fK(w:World)(v:Value)(n:Nat):Prop:=∃ l,Holds .i64 w v l/\Canon 10000 l/\mv 10000 l=n
theorem fK.ext{w w':World}{v:Value}{n:Nat}(h:fK w v n)(e:Ext w w'):fK w' v n :=
 let ⟨l,h1,h2,h3⟩:=h;⟨l,h1.ext e,h2,h3⟩
theorem fK.slice{w:World}{v:Value}{n:Nat}(h:fK w v n):∃ ad len cap,v = .slice ad len cap:=by
 obtain⟨l,⟨ad,cap,b,off,hv,_⟩,_⟩:=h;exact⟨ad,_,cap,hv⟩
theorem fK.zero(w:World):fK w (.slice none 0 0) 0:=⟨[],Holds.nil _ _,Canon.nil _,rfl⟩
theorem fK.fY{w:World}{ad:Option Addr}{n c N:Nat}(h:fK w (.slice ad n c) N):n=0 ↔ N=0:=by
 obtain⟨l,⟨uM,cap,b,off,hv,_⟩,hc,hm⟩:=h;simp only[Value.slice.injEq] at hv;rw[hv.2.1];constructor
 ·intro e;have:l=[]:=List.length_eq_zero_iff.1 e;subst this;exact hm.symm
 ·intro e;rw[hc.lu af (by rw[hm,e])];rfl
def Le:Nat:=5000
structure jX(n:Nat):Prop where
 out:n<10000 ^ Le
theorem jX.len{n:Nat}{l:List Nat}(h:jX n)(c:Canon 10000 l)(e:mv 10000 l=n):l.length<=5000 :=
 mP (k:=Le) af c (by rw[e];exact h.out)
theorem jX.mono{a b:Nat}(h:jX a)(hb:b<=a):jX b:=⟨Nat.lt_of_le_of_lt hb h.out⟩
theorem IB.x7{k:Nat}{a:Int}(h:IB k a)(hk:k<=18000):jX a.natAbs :=
 ⟨Nat.lt_of_lt_of_le h.out (by rw[show(10000:Nat)=10 ^ 4 by decide,← Nat.pow_mul];exact Nat.pow_le_pow_right af (Nat.le_trans hk af))⟩
theorem rO:(prog.info? 3).map (fun i=>(i.zero,i.size,i.bytes))=some (some (.int .i64 0),1,8):=ag
theorem ph(w:World):(sizeOf 3).run prog w = .ok 1 w:=ag
def EY(w:World)(l:List Nat)(v:Value)(e:Ending)(w':World):Prop :=
 ∃ v',e = .returned v'/\w=w'/\fK w v' (mv 10000 l)/\∃ ad n k cap,v = .slice ad n cap/\v' = .slice ad k cap
def PC(w:World)(b:Bool)(e:Ending)(w':World):Prop:=e = .returned (.bool b)/\Ext w w'
theorem zx {w:World} {l:List Nat} {b off cap n k:Nat} (hn:n=l.length) (hk:k<=n) (DJ:n<=cap) (nh:cap<=9223372036854775807) (hb:b<w.heap.size)
    (hc:∀ i,i<l.length->w.cell? ⟨b,off+i,none⟩=some (.int .i64 ((l.getD i 0:Nat):Int))) (hl:bK 10000 l) (hz:∀ i (h:i<l.length),k<=i->l[i]=0)
    (rS:k=0∨l[k-1]?.getD 0≠0):fK w (.slice (some ⟨b,off,none⟩) k cap) (mv 10000 l):=by
 have hlen:(l.take k).length=k:=by rw[List.length_take];omega
 have ht:=Is (B:=10000) (l:=l) (k:=k) ae hl hz (by
  rcases rS with h|h
  ·exact Or.inl h
  ·by_cases h0:k=0
   ·exact Or.inl h0
   ·exact Or.inr ⟨ae,by simpa[show k-1<l.length by omega] using h⟩)
 refine⟨l.take k,Holds.some hlen ae nh hb (fun i hi=>?_),ht.1,ht.2⟩;rw[hc i (by rw[hlen] at hi;omega)];rw[hlen] at hi;simp[hi]
set_option maxHeartbeats 400000 in
theorem zv (l:List Nat) (v:Value) (w:World) (h:Holds .i64 w v l) (hl:bK 10000 l) :
    Calls prog 222 #[v] w (EY w l v):=by
 by_cases hz:0<l.length
 ·obtain⟨b,off,cap,rfl,DJ,nh,hb,hc⟩:=h.cells hz;obtain⟨n,hn⟩:∃ n,n=l.length:=⟨_,rfl⟩
  have DI:n<=cap:=ae;have mf:n<=l.length:=ae;rw[← hn];have HN:=ai hn;clear hn h hz;go_enter func222,ntmps222;go_wp2;go_loop [0] (fun v=>∃ k:Nat,k<=n/\v = .slice (some ⟨b,off,none⟩) k cap/\∀ i (h:i<l.length),k<=i->l[i]=0)
   (fun v=>match v with | .slice _ k _=>k|_=>0)
  case atStart=>exact⟨n,Nat.le_refl _,rfl,fun i h1 h2=>by have:=HN.o;omega⟩
  case round =>
   obtain⟨k,hk,rfl,hz⟩:=hrel;by_cases h0:0<k
   ·have y4:w.cell? ⟨b,off+(k-1),none⟩=some (.int .i64 ((l.getD (k-1) 0:Nat):Int)):=hc _ ae;go_wp2
    ·have h1:(((l[k-1]?.getD 0:Nat):Int) == 0)=true:=by assumption
     go_round
     case rel=>exact⟨k-1,ae,rfl,n9 h0 hz (by simpa using h1)⟩
     case measure=>show k-1<k;omega
    ·have h1:(((l[k-1]?.getD 0:Nat):Int) == 0)=false:=by assumption
     go_ret;exact⟨_,rfl,rfl,zx HN.o hk DI nh hb hc hl hz (Or.inr (by simpa using h1)),_,_,_,_,rfl,rfl⟩
   ·go_wp2;go_ret;exact⟨_,rfl,rfl,zx HN.o hk DI nh hb hc hl hz (Or.inl ae),_,_,_,_,rfl,rfl⟩
 ·obtain rfl:l=[]:=List.length_eq_zero_iff.1 ae;obtain⟨ad,cap,b,off,rfl,_,nh,_,_⟩:=h;simp only[List.length_nil];go_enter func222,ntmps222;go_wp2;go_loop [0] (fun v=>v = .slice ad 0 cap) (fun _=>0)
  case atStart=>rfl
  case round =>
   subst hrel;go_wp2;go_ret;exact⟨_,rfl,rfl,⟨[],Holds.empty _ _ _ _ nh,Canon.nil _,rfl⟩,_,_,_,_,rfl,rfl⟩
theorem yW {l m:List Nat} {k n:Nat} (hl:l.length=n) (hm:m.length=n) (hk:k<n) (hd:l.drop (k+1)=m.drop (k+1)) (bl:bK 10000 l)
    (h:l[k]?.getD 0<m[k]?.getD 0):mv 10000 l<mv 10000 m:=by
 have h1:k<l.length:=ae;have h2:k<m.length:=ae;exact rH bl ae h1 hd (by simpa[h1,h2] using h)
theorem sj{a b:Bool}(h:a=b):Ending.returned (.bool a) = .returned (.bool b):=by rw[h]
theorem Nz {l m:List Nat} {k n:Nat} (hl:l.length=n) (hm:m.length=n) (hk:k<n) (hd:l.drop (k+1)=m.drop (k+1)) (bl:bK 10000 l) (bm:bK 10000 m)
    (h:l[k]?.getD 0≠m[k]?.getD 0):decide (l[k]?.getD 0<m[k]?.getD 0)=decide (mv 10000 l<mv 10000 m):=by
 by_cases h1:l[k]?.getD 0<m[k]?.getD 0
 ·rw[decide_eq_true h1,decide_eq_true (yW hl hm hk hd bl h1)]
 ·have:=yW hm hl hk hd.symm bm ae;rw[decide_eq_false h1,decide_eq_false ae]
set_option maxHeartbeats 1000000 in
theorem lN (a b:Nat) (va vb:Value) (w:World) (ha:fK w va a) (hb:fK w vb b) :
    Calls prog 260 #[va,vb] w (PC w (decide (a<b))):=by
 obtain⟨l,Oi,cl,rfl⟩:=ha;obtain⟨m,yh,cm,rfl⟩:=hb;obtain⟨n,hn⟩:∃ n,n=l.length:=⟨_,rfl⟩
 obtain⟨n',mf⟩:∃ n',n'=m.length:=⟨_,rfl⟩
 rcases Nat.lt_trichotomy n n' with aP|heq|hgt
 ·obtain⟨ad,ca,_,_,rfl,h1,h2,_,_⟩:=Oi;obtain⟨bd,cb,_,_,rfl,h3,h4,_,_⟩:=yh;rw[← hn] at h1 ⊢;rw[← mf] at h3 ⊢;have hr:decide (mv 10000 l<mv 10000 m)=true:=decide_eq_true (cl.l8 af cm ae);rw[hr];clear hn mf hr;go_enter func260,ntmps260;go_wp2;go_ret
  first|exact⟨rfl,Ext.refl _⟩|exact⟨sj (decide_eq_true ae),Ext.refl _⟩
 ·subst heq;by_cases h0:0<n
  ·obtain⟨b1,o1,ca,rfl,h1,h2,y7,I5⟩:=Oi.cells ae;obtain⟨b2,o2,cb,rfl,h3,h4,Ut,hc2⟩:=yh.cells ae;rw[← hn] at h1 I5 ⊢;rw[← mf] at h3 hc2 ⊢;have HN:=ai hn;have uh:=ai mf;clear hn mf Oi yh;go_enter func260,ntmps260;go_wp2;go_loopw [5] (fun i wr=>∃ k:Nat,k<=n/\i = .int .i64 ((k:Int)-1)/\l.drop k=m.drop k/\Ext w wr) (fun i _=>(intOf i+1).toNat)
   case atStart=>exact⟨n,Nat.le_refl _,rfl,by rw[List.drop_of_length_le (by have:=HN.o;omega),List.drop_of_length_le (by have:=uh.o;omega)],Ext.refl _⟩
   case round =>
    obtain⟨k,hk,rfl,hd,hx⟩:=hrel;by_cases E6:0<k
    ·obtain⟨j,rfl⟩:∃ j,k=j+1:=⟨k-1,ae⟩
     have ej:(((j+1:Nat):Int)-1)=(j:Int):=ae;rw[ej];clear ej;have g1:wr.cell? ⟨b1,o1+j,none⟩=some (.int .i64 ((l.getD j 0:Nat):Int)):=(hx.cell y7).trans (I5 j ae);have g2:wr.cell? ⟨b2,o2+j,none⟩=some (.int .i64 ((m.getD j 0:Nat):Int)):=(hx.cell Ut).trans (hc2 j ae);have HD:=ai hd;clear hd;go_wp2;go_quiet (fail);go_wp2
     ·have c8:(((l[j]?.getD 0:Nat):Int) != ((m[j]?.getD 0:Nat):Int))=true:=by assumption
      go_quiet (fail);go_wp2;have h2:=NA c8;go_ret;exact⟨sj (Nz HN.o.symm uh.o.symm ae HD.o cl.lt cm.lt h2),(hx.drewN _).drewN _⟩
     ·have c8:(((l[j]?.getD 0:Nat):Int) != ((m[j]?.getD 0:Nat):Int))=false:=by assumption
      go_roundw
      case rel=>exact⟨j,ae,rfl,zm HN.o.symm uh.o.symm ae HD.o (OY c8),hx.drewN _⟩
      case measure=>simp[intOf]
    ·obtain rfl:k=0:=ae;go_wp2;go_ret;refine⟨sj ?_,hx⟩;rw[show l=m from by simpa using hd];simp
  ·obtain⟨ad,ca,_,_,rfl,h1,h2,_,_⟩:=Oi;obtain⟨bd,cb,_,_,rfl,h3,h4,_,_⟩:=yh;obtain rfl:l=[]:=List.length_eq_zero_iff.1 ae;obtain rfl:m=[]:=List.length_eq_zero_iff.1 ae;simp only[List.length_nil];clear hn mf;go_enter func260,ntmps260;go_wp2;refine wp_loop_rounds 1 ?_;rw[rounds_succ];go_wp2;go_ret;exact⟨rfl,Ext.refl _⟩
 ·obtain⟨ad,ca,_,_,rfl,h1,h2,_,_⟩:=Oi;obtain⟨bd,cb,_,_,rfl,h3,h4,_,_⟩:=yh;rw[← hn] at h1 ⊢;rw[← mf] at h3 ⊢;have hr:decide (mv 10000 l<mv 10000 m)=false:=decide_eq_false (by have:=cm.l8 af cl ae;omega);rw[hr];clear hn mf hr;go_enter func260,ntmps260;go_wp2;go_ret
  first|exact⟨rfl,Ext.refl _⟩|exact⟨sj (decide_eq_false ae),Ext.refl _⟩
