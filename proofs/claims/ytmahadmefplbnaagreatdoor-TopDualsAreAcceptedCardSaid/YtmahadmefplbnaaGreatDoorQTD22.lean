/- Part 22. -/
import Derived.Test.YtmahadmefplbnaaGreatDoorQTDB
import Derived.Test.YtmahadmefplbnaaGreatDoorQTD21
import Derived.Deep.LoopGhost
set_option maxRecDepth 100000
set_option maxHeartbeats 2000000
open Go.Proofs.Tryz
namespace Go.Proofs.YtmahadmefplbnaaGreatDoor
open Go Go.RowKit
theorem AJ(X:Int):max X (-X)=(X.natAbs:Int):=ae
theorem vV(a b:Int)(w:World)(g:Gd w)(ha:(zl a).length<=18)(hb:(zl b).length<=18):Calls prog 182 #[.string (zs a),.string (zs b)] w (aR w (.string (zs (Int.gcd a b)))):=by
 have h1:=bK ha;have h2:=bK hb;have ba:a.natAbs<=1000000000000000000:=Nat.le_of_lt h1;have bb:b.natAbs<=1000000000000000000:=Nat.le_of_lt h2;have HA:=aj ha;have HB:=aj hb;have BA:=aj ba;have BB:=aj bb;clear h1 h2 ha hb ba bb;go_enter func182,ntmps182;go_wp2_with (first
  | (go_at_call 167;((with_reducible refine(cx a 18 w (by have:=HA.o;omega) af).mono ?_);rintro e w1 ⟨rfl,e1⟩))
  | (go_at_call 167;refine cto (cx b 18 _ (by have:=HB.o;omega) af) fun w2 e2=>?_))
 go_loopw [5,7] (fun x y W=>∃ X Y:Int,x = .int .i64 X/\y = .int .i64 Y/\Int.gcd X Y=Int.gcd a b/\X.natAbs<=1000000000000000000/\Y.natAbs<=1000000000000000000/\Ext w W)
  (fun _ y _=>(intOf y).natAbs)
 case atStart=>exact⟨a,b,rfl,rfl,rfl,BA.out,BB.out,e1.trans e2⟩
 case round =>
  obtain⟨X,Y,rfl,rfl,hg,hX,hY,hx⟩:=hrel;have HGC:=aj hg;have HX:=aj hX;have HY:=aj hY;have x1:-1000000000000000000<=X:=ae;have x2:X<=1000000000000000000:=ae;have y1:-1000000000000000000<=Y:=ae;have y2:Y<=1000000000000000000:=ae;clear hg hX hY;by_cases h0:Y=0
  ·subst h0;have hf:Int.gcd a b=X.natAbs:=by rw[← HGC.o,Int.gcd_zero]
   have HF:=aj hf;clear hf;go_wp2_with (go_at_call 168;refine cto (yj (max X (-X)) ae ae _ (g.ext hx)) fun w3 e3=>?_);go_ret;exact⟨cW (by rw[AJ,HF.o]),hx.trans e3⟩
  ·have hs:=rh X Y;have hm:=Int.natAbs_tmod X Y;have hlt:=Nat.mod_lt X.natAbs (show 0<Y.natAbs by omega);have HS:=aj hs;have HL:=aj (show(X.tmod Y).natAbs<Y.natAbs by omega);clear hs hm hlt;go_wp2;go_region
   all_goals
    go_roundw
    case rel=>(repeat apply Exists.intro);exact⟨⟨Y,X.tmod Y,rfl,rfl,by rw[HS.o,HGC.o],HY.o,by have:=HL.o;have:=HY.o;omega,hx.drew⟩,rfl⟩
    case measure=>have:=HL.o;simpa[intOf] using this
theorem A3(s:Bool)(ad:Option Addr)(n c:Nat)(w:World):(Instr.field 216 (.agg #[.bool s,.slice ad n c]) 1).run prog w = .ok (.slice ad n c) w:=ag
theorem Fd.mono{a b:Nat}(h:Fd a)(hb:b<=a):Fd b:=⟨Nat.lt_of_le_of_lt hb h.out⟩
set_option maxHeartbeats 4000000 in
theorem A1(a b:Int){k m:Nat}(w:World)(g:Gd w)(ha:IB k a)(hb:IB m b)(hk:k<=9000)(hm:m<=9000)(h:¬ ((zl a).length<=18/\(zl b).length<=18)):Calls prog 182 #[.string (zs a),.string (zs b)] w (aR w (.string (zs (Int.gcd a b)))):=by
 have la:=ha.len hk;have lb:=hb.len hm;have HA:=aj (ha.fit hk);have HB:=aj (hb.fit hm);have HG:=aj g;clear ha hb g;have hfp:=A3;by_cases h9:(zl a).length<=18
 ·have h9':¬ (zl b).length<=18:=fun e=>h ⟨h9,e⟩
  have H9:=aj h9;have H9':=aj h9';clear h h9 h9';go_enter func182,ntmps182;go_wp2_with (first
   | (go_at_call 167;((with_reducible refine(cx a 18 w (by have:=H9.o;omega) af).mono ?_);rintro e w1 ⟨rfl,e1⟩))
   | (go_at_call 167;refine cto (dy b 18 _ (by have:=H9'.o;omega)) fun w2 e2=>?_)
   | (go_at_call 169;((with_reducible refine(bC a w2 la).mono ?_);rintro e w3 ⟨va,rfl,e3,ad,na,ca,rfl,ma⟩))
   | (go_at_call 169;refine(bC b w3 lb).mono ?_;rintro e w4 ⟨vb,rfl,e4,bd,nb,cb,rfl,mb⟩))
  have e12:Ext w w2:=e1.trans e2;clear e1 e2;go_loopg [9,10] b.natAbs (fun gk x y W=>∃ (X Y:Nat) (xa ya:Option Addr) (xn xc yn yc:Nat),x = .slice xa xn xc/\y = .slice ya yn yc/\cz W (.slice xa xn xc) X/\cz W (.slice ya yn yc) Y/\Y<=gk/\Nat.gcd X Y=Int.gcd a b/\Fd X/\Fd Y/\Ext w W)
  case atStart=>exact⟨a.natAbs,b.natAbs,_,_,_,_,_,_,rfl,rfl,ma.ext e4,mb,Nat.le_refl _,rfl,HA.o,HB.o,(e12.trans e3).trans e4⟩
  case round =>
   obtain⟨X,Y,xa,ya,xn,xc,yn,yc,rfl,rfl,mx,my,hk,hgc,fx,fy,hx⟩:=hrel;have hl:=my.cF;have HMX:=aj mx;have HMY:=aj my;have HGC:=aj hgc;have HFX:=aj fx;have HFY:=aj fy;clear mx my hgc fx fy;by_cases h0:yn=0
   ·have hY:=hl.1 h0;subst h0;subst hY;have hf:Int.gcd a b=X:=by rw[← HGC.o,Nat.gcd_zero_right]
    have HF:=aj hf;clear hf hl;go_wp2_with (go_at_call 171;refine cto (cv false X _ _ _ _ HMX.o HFX.o.fit.mW (HG.o.ext hx)) fun w9 e9=>?_);go_ret;exact⟨cW (by rw[HF.o];rfl),hx.trans e9⟩
   ·have hY:0<Y:=by
     rcases Nat.eq_zero_or_pos Y with h|h
     ·exact absurd (hl.2 h) h0
     ·exact h
    have hyn:0<yn:=ae;have hmod:=Nat.mod_lt X hY;have HY:=aj hY;clear hl hY;go_wp2_with (go_at_call 246;refine(iF X Y _ _ _ HMX.o HMY.o HY.o HFX.o).mono ?_;rintro e w5 ⟨vq,vr,rfl,e5,mq,mr⟩;obtain⟨qa,ql,qc,rfl⟩:=mq.slice;obtain⟨ra,rl,rc,rfl⟩:=mr.slice);go_roundg (X % Y)
    case rel=>exact⟨Y,X % Y,ya,ra,yn,yc,rl,rc,rfl,rfl,HMY.o.ext e5,mr,Nat.le_refl _,by rw[← HGC.o,Nat.gcd_comm,← Nat.gcd_rec,Nat.gcd_comm],HFY.o,HFX.o.mono (Nat.mod_le _ _),hx.trans e5⟩
    case measure=>omega
 ·have H9:=aj h9;clear h h9;go_enter func182,ntmps182;go_wp2_with (first
   | (go_at_call 167;((with_reducible refine(dy a 18 w (by have:=H9.o;omega)).mono ?_);rintro e w2 ⟨rfl,e12⟩))
   | (go_at_call 169;((with_reducible refine(bC a w2 la).mono ?_);rintro e w3 ⟨va,rfl,e3,ad,na,ca,rfl,ma⟩))
   | (go_at_call 169;refine(bC b w3 lb).mono ?_;rintro e w4 ⟨vb,rfl,e4,bd,nb,cb,rfl,mb⟩))
  go_loopg [9,10] b.natAbs (fun gk x y W=>∃ (X Y:Nat) (xa ya:Option Addr) (xn xc yn yc:Nat),x = .slice xa xn xc/\y = .slice ya yn yc/\cz W (.slice xa xn xc) X/\cz W (.slice ya yn yc) Y/\Y<=gk/\Nat.gcd X Y=Int.gcd a b/\Fd X/\Fd Y/\Ext w W)
  case atStart=>exact⟨a.natAbs,b.natAbs,_,_,_,_,_,_,rfl,rfl,ma.ext e4,mb,Nat.le_refl _,rfl,HA.o,HB.o,(e12.trans e3).trans e4⟩
  case round =>
   obtain⟨X,Y,xa,ya,xn,xc,yn,yc,rfl,rfl,mx,my,hk,hgc,fx,fy,hx⟩:=hrel;have hl:=my.cF;have HMX:=aj mx;have HMY:=aj my;have HGC:=aj hgc;have HFX:=aj fx;have HFY:=aj fy;clear mx my hgc fx fy;by_cases h0:yn=0
   ·have hY:=hl.1 h0;subst h0;subst hY;have hf:Int.gcd a b=X:=by rw[← HGC.o,Nat.gcd_zero_right]
    have HF:=aj hf;clear hf hl;go_wp2_with (go_at_call 171;refine cto (cv false X _ _ _ _ HMX.o HFX.o.fit.mW (HG.o.ext hx)) fun w9 e9=>?_);go_ret;exact⟨cW (by rw[HF.o];rfl),hx.trans e9⟩
   ·have hY:0<Y:=by
     rcases Nat.eq_zero_or_pos Y with h|h
     ·exact absurd (hl.2 h) h0
     ·exact h
    have hyn:0<yn:=ae;have hmod:=Nat.mod_lt X hY;have HY:=aj hY;clear hl hY;go_wp2_with (go_at_call 246;refine(iF X Y _ _ _ HMX.o HMY.o HY.o HFX.o).mono ?_;rintro e w5 ⟨vq,vr,rfl,e5,mq,mr⟩;obtain⟨qa,ql,qc,rfl⟩:=mq.slice;obtain⟨ra,rl,rc,rfl⟩:=mr.slice);go_roundg (X % Y)
    case rel=>exact⟨Y,X % Y,ya,ra,yn,yc,rl,rc,rfl,rfl,HMY.o.ext e5,mr,Nat.le_refl _,by rw[← HGC.o,Nat.gcd_comm,← Nat.gcd_rec,Nat.gcd_comm],HFY.o,HFX.o.mono (Nat.mod_le _ _),hx.trans e5⟩
    case measure=>omega
theorem uu(a b:Int){k m:Nat}(w:World)(g:Gd w)(ha:IB k a)(hb:IB m b)(hk:k<=9000)(hm:m<=9000):Calls prog 182 #[.string (zs a),.string (zs b)] w (aR w (.string (zs (Int.gcd a b)))):=by
 by_cases h:(zl a).length<=18/\(zl b).length<=18
 ·exact vV a b w g h.1 h.2
 ·exact A1 a b w g ha hb hk hm h
theorem indexByte_none{c:UInt8}:∀ {l:List UInt8},c ∉ l->Lib.indexByte l c=-1
 | [],_=>rfl
 | b :: l,h=>by
  have h1:(b == c)=false:=by simpa using fun e=>h (by simp[e])
  simp[Lib.indexByte,h1,indexByte_none (fun e=>h (List.mem_cons_of_mem _ e))]
theorem jV{c:UInt8}{y:List UInt8}:∀ {x:List UInt8},c ∉ x->Lib.indexByte (x ++ c :: y) c=x.length
 | [],_=>by simp[Lib.indexByte]
 | b :: x,h=>by
  have h1:(b == c)=false:=by simpa using fun e=>h (by simp[e])
  have ih:=jV (y:=y) (fun e=>h (List.mem_cons_of_mem _ e));have h2:((x.length:Int) == -1)=false:=by simp
  simp only[List.cons_append,Lib.indexByte,h1,ih,h2];simp
theorem qz(l:List UInt8):(47:UInt8) ∉ l∨∃ x y,l=x ++ 47 :: y/\(47:UInt8) ∉ x:=by
 induction l with
 | nil=>exact Or.inl (by simp)
 | cons b t ih =>
  by_cases h:b=47
  ·subst h;exact Or.inr ⟨[],t,rfl,by simp⟩
  ·rcases ih with ih|⟨x,y,rfl,hx⟩
   ·exact Or.inl (by simp[ih,Ne.symm h])
   ·exact Or.inr ⟨b :: x,y,rfl,by simp[hx,Ne.symm h]⟩
theorem zu(s:ByteArray):s=⟨s.data.toList.toArray⟩:=by apply bO;simp
set_option maxHeartbeats 1000000 in
theorem uX (s:ByteArray) (w:World) (h:(47:UInt8) ∉ s.data.toList) :
    Calls prog 232 #[.string s,.string ⟨#[47]⟩] w fun e w'=>e = .returned (.tuple #[.string s,.string ⟨#[]⟩,.bool false])/\Ext w w':=by
 have hi:=indexByte_none h;have HI:=aj hi;clear hi h;go_enter func232,ntmps232;go_wp2_with (go_at_call 264;refine(stringslite_Index_one s 47 _).mono ?_;rw[HI.o];rintro e w' ⟨rfl,rfl⟩);go_ret3;exact⟨rfl,Ext.refl _⟩
theorem zm(x y:List UInt8):(⟨(x ++ 47 :: y).toArray⟩:ByteArray).extract 0 x.length=⟨x.toArray⟩:=by
 apply bO;rw[dV];simp
theorem wj(x y:List UInt8):(⟨(x ++ 47 :: y).toArray⟩:ByteArray).extract (x.length+1) (⟨(x ++ 47 :: y).toArray⟩:ByteArray).size=⟨y.toArray⟩:=by
 apply bO;rw[dV];have:(⟨(x ++ 47 :: y).toArray⟩:ByteArray).size=x.length+1+y.length:=by(simp[ByteArray.size]);try omega
 rw[this,show x ++ 47 :: y=(x ++ [47]) ++ y by simp,show x.length+1=(x ++ [(47:UInt8)]).length by simp,List.drop_left];simp
set_option maxHeartbeats 1000000 in
theorem Af (s:ByteArray) (x y:List UInt8) (w:World) (hs:s.data.toList=x ++ 47 :: y) (h:(47:UInt8) ∉ x) (hl:s.size<=1000000) :
    Calls prog 232 #[.string s,.string ⟨#[47]⟩] w fun e w'=>e = .returned (.tuple #[.string ⟨x.toArray⟩,.string ⟨y.toArray⟩,.bool true])/\Ext w w':=by
 have hi:Lib.indexByte s.data.toList 47=x.length:=by rw[hs];exact jV h
 have hsz:x.length+1<=s.size:=by
  have:s.size=s.data.toList.length:=by rw[Array.length_toList];rfl
  rw[this,hs];simp
 have hcl:=zm x y;have hcr:=wj x y;rw[show(⟨(x ++ 47 :: y).toArray⟩:ByteArray)=s by rw[← hs]] at hcl hcr;obtain⟨n,hn⟩:∃ n,n=x.length:=⟨_,rfl⟩
 rw[← hn] at hi hsz hcl hcr;have HI:=aj hi;have HL:=aj hcl;have HR:=aj hcr;clear hi h hs hn hcl hcr;have hsz':(n:Int)+1<=(s.size:Int):=ae;have hsz2:(n:Int)<=(s.size:Int):=ae;go_enter func232,ntmps232;go_wp2_with (go_at_call 264;refine(stringslite_Index_one s 47 _).mono ?_;rw[HI.o];rintro e w' ⟨rfl,rfl⟩);go_region
 all_goals
  go_wp2;go_ret3;exact⟨by rw[← HL.o,← HR.o];rfl,(Ext.refl _).drew⟩
theorem nq (s:ByteArray) (w:World) (h:(47:UInt8) ∉ s.data.toList) :
    Calls prog 163 #[.string s,.string ⟨#[47]⟩] w (aR w (.tuple #[.string s,.string ⟨#[]⟩,.bool false])):=by
 go_enter func163,ntmps163;go_wp2_with (go_at_call 232;refine(uX s _ h).mono ?_;rintro e w' ⟨rfl,e1⟩);go_ret3;exact⟨rfl,e1⟩
theorem td (s:ByteArray) (x y:List UInt8) (w:World) (hs:s.data.toList=x ++ 47 :: y) (h:(47:UInt8) ∉ x) (hl:s.size<=1000000) :
    Calls prog 163 #[.string s,.string ⟨#[47]⟩] w (aR w (.tuple #[.string ⟨x.toArray⟩,.string ⟨y.toArray⟩,.bool true])):=by
 have HS:=aj hs;have H:=aj h;clear hs h;go_enter func163,ntmps163;go_wp2_with (go_at_call 232;refine(Af s x y _ HS.o H.o hl).mono ?_;rintro e w' ⟨rfl,e1⟩);go_ret3;exact⟨rfl,e1⟩
theorem QB.len{k:Nat}{q:Rat}(h:QB k q)(hk:k<=9000):(qs q).size<=1000000:=by
 rw[jK];have h1:=fu (n:=q.num) (k:=k+1) ae (Nat.lt_of_lt_of_le h.num (Nat.pow_le_pow_right af ae));have h2:=bB (u:=q.den) (k:=k+1) ae (Nat.lt_of_lt_of_le h.den (Nat.pow_le_pow_right af ae));unfold ql;split
 ·omega
 ·simp;omega
theorem cY (q:Rat) {k:Nat} (w:World) (hq:QB k q) (hk:k<=9000) :
    Calls prog 86 #[.string (qs q)] w (aR w (.tuple #[.string (zs q.num),.string (zs q.den)])):=by
 have hl:=hq.len hk;by_cases h:q.den=1
 ·have e1:qs q=zs q.num:=by unfold qs zs;rw[dt h]
  have e2:zs (q.den:Int)=⟨#[49]⟩:=by rw[h];exact rU
  rw[e1,e2];have hns:(47:UInt8) ∉ (zs q.num).data.toList:=by rw[bH];exact cA _
  have H:=aj hns;clear e1 e2 hns h hq hl;go_enter func86,ntmps86;go_wp2_with (go_at_call 163;refine(nq _ _ H.o).mono ?_;rintro e w' ⟨rfl,e1⟩);go_ret2;exact⟨rfl,e1⟩
 ·have hns:=cA q.num;have e1:(qs q).data.toList=zl q.num ++ 47 :: Lib.decDigits q.den:=by rw[dN,cu h]
  have e2:zs (q.den:Int)=⟨(Lib.decDigits q.den).toArray⟩:=by unfold zs;rw[dr]
  have e3:zs q.num=⟨(zl q.num).toArray⟩:=rfl;rw[e2,e3];have H:=aj hns;have E:=aj e1;clear e1 e2 e3 hns h hq;go_enter func86,ntmps86;go_wp2_with (go_at_call 163;refine(td _ _ _ _ E.out H.o hl).mono ?_;rintro e w' ⟨rfl,e1⟩);go_ret2;exact⟨rfl,e1⟩
theorem fE{k:Nat}{n:Int}(h:IB k n)(hk:k<=9000):(zs n).size<=100000:=by rw[dB];exact h.len hk
theorem gV(n:Int)(d:Nat):(zs n ++ (⟨#[47]⟩:ByteArray)) ++ zs (d:Int)=⟨(zl n ++ 47 :: Lib.decDigits d).toArray⟩:=by
 apply bO;rw[ByteArray.data_append,Array.toList_append,ByteArray.data_append,Array.toList_append,bH,bH,dr];simp
theorem pL (n:Int) (d:Nat) {k m:Nat} (w:World) (hn:IB k n) (hd:IB m (d:Int)) (hk:k<=9000) (hm:m<=9000) :
    Calls prog 249 #[.string (zs n),.string (zs (d:Int))] w fun e w'=>e = .returned (.string ⟨(ee n d).toArray⟩)/\w=w':=by
 have l1:=fE hn hk;have l2:=fE hd hm;by_cases h:d=1
 ·have h1:=oS (n:=(d:Int)) ae;have e:(⟨(ee n d).toArray⟩:ByteArray)=zs n:=by unfold ee;rw[if_pos h];rfl
  have E:=aj e;clear h e;go_enter func249,ntmps249;go_wp2;go_ret;exact⟨by rw[E.out];rfl,rfl⟩
 ·have h1:=kS (n:=(d:Int)) ae;have e:(⟨(ee n d).toArray⟩:ByteArray)=(zs n ++ (⟨#[47]⟩:ByteArray)) ++ zs (d:Int):=by unfold ee;rw[if_neg h,gV]
  have E:=aj e;clear h e;go_enter func249,ntmps249;go_wp2;go_ret;exact⟨by rw[E.out];rfl,rfl⟩
theorem tw{n:Int}(h:n=1):((zs n).toList != [49])=false:=by rw[dI,oT.2 h];rfl
theorem qg{n:Int}(h:n≠1):((zs n).toList != [49])=true:=by rw[dI];simpa using fun e=>h (oT.1 e)
theorem QB.cB{k:Nat}{q:Rat}(h:QB k q):IB k q.num:=⟨h.num⟩
theorem QB.bY{k:Nat}{q:Rat}(h:QB k q):IB k (q.den:Int):=⟨by rw[Int.natAbs_natCast];exact h.den⟩
theorem oi (n:Int) (d:Nat) (hd:d≠0) {k m:Nat} (hn:IB k n) (hdb:IB m (d:Int)) :
    IB m (Int.gcd n d:Int)/\IB k (n / (Int.gcd n d:Int))/\IB m ((d / Int.gcd n d:Nat):Int)/\(d:Int) / (Int.gcd n d:Int)=((d / Int.gcd n d:Nat):Int)/\(Int.gcd n d:Int)≠0 /\
     (⟨(ee (n / (Int.gcd n d:Int)) (d / Int.gcd n d)).toArray⟩:ByteArray)=qs (mkRat n d):=by
 have hg0:Int.gcd n d≠0:=Int.gcd_ne_zero_right ae;have hgd:Int.gcd n d<=d:=by have:=Int.gcd_le_natAbs_right n (b:=(d:Int)) ae;simpa using this
 refine⟨hdb.of_le (by simpa using hgd),hn.of_le (Int.natAbs_ediv_le_natAbs _ _),hdb.of_le (by simp only[Int.natAbs_natCast];exact Nat.div_le_self _ _),by simp,ae,?_⟩;have e:=qI (n:=n) (d:=d) (g:=Int.gcd n d) hd rfl;unfold qs;rw[e,Int.tdiv_eq_ediv_of_dvd (Int.gcd_dvd_left _ _)]
set_option maxHeartbeats 1000000 in
theorem gU (n:Int) (d:Nat) (hd:d≠0) {k m:Nat} (w:World) (g:Gd w) (hn:IB k n) (hdb:IB m (d:Int)) (hk:k<=8000) (hm:m<=8000) :
    Calls prog 188 #[.string (zs n),.string (zs (d:Int))] w (aR w (.string (qs (mkRat n d)))):=by
 obtain⟨f1,f2,f3,f4,f5,f6⟩:=oi n d hd hn hdb;have hs:(d:Int).sign=1:=Int.sign_eq_one_of_pos ae;obtain⟨G,hG⟩:∃ G:Nat,G=Int.gcd n d:=⟨_,rfl⟩
 rw[← hG] at f1 f2 f3 f4 f5 f6;rw[← f6];have HF1:=aj f1;have HF2:=aj f2;have HF3:=aj f3;have HF4:=aj f4;have HF5:=aj f5;have HG:=aj hG;have HN:=aj hn;have HD:=aj hdb;have HS:=aj hs;have HGD:=aj g;by_cases h1:(G:Int)=1
 ·have g1:=oS h1;have g2:=tw h1;have e1:(⟨(ee (n / (G:Int)) (d / G)).toArray⟩:ByteArray)=⟨(ee n d).toArray⟩:=by
   have:G=1:=ae;subst this;simp
  have E1:=aj e1;clear f1 f2 f3 f4 f5 f6 hG hn hdb hs g h1 e1 hd;go_enter func188,ntmps188;go_wp2_with (first
   | (go_at_call 164;refine(eu _ _).mono ?_;rw[HS.o];rintro e w' ⟨rfl,rfl⟩)
   | (go_at_call 182;refine(uu _ _ _ HGD.o HN.o HD.o ae ae).mono ?_;rw[← HG.o];rintro e w1 ⟨rfl,e1⟩)
   | (go_at_call 249;refine(pL _ _ _ HN.o HD.o ae ae).mono ?_;rintro e w' ⟨rfl,rfl⟩))
  go_ret;exact⟨by rw[E1.out];rfl,e1⟩
 ·have g1:=kS h1;have g2:=qg h1;clear f1 f2 f3 f4 f5 f6 hG hn hdb hs g h1 hd;go_enter func188,ntmps188;go_wp2_with (first
   | (go_at_call 164;refine(eu _ _).mono ?_;rw[HS.o];rintro e w' ⟨rfl,rfl⟩)
   | (go_at_call 182;refine(uu _ _ _ HGD.o HN.o HD.o ae ae).mono ?_;rw[← HG.o];rintro e w1 ⟨rfl,e1⟩)
   | (go_at_call 228;((with_reducible refine(rB n (G:Int) w1 (HGD.o.ext e1) HN.o HF1.o ae ae HF5.o).mono ?_);rintro e w2 ⟨rfl,e2⟩))
   | (go_at_call 228;refine(rB (d:Int) (G:Int) _ (HGD.o.ext (e1.trans e2)) HD.o HF1.o ae ae HF5.o).mono ?_;rw[HF4.o];rintro e w3 ⟨rfl,e3⟩)
   | (go_at_call 249;refine(pL _ _ _ HF2.o HF3.o ae ae).mono ?_;rintro e w' ⟨rfl,rfl⟩))
  go_ret;exact⟨rfl,(e1.trans e2).trans e3⟩
def ep(s:ByteArray)(a i:Nat):Nat:=val ((s.data.toList.drop a).take (i-a))
theorem ck(s:ByteArray)(a:Nat):ep s a a=0:=by simp[ep,val,aZ]
theorem eh(s:ByteArray)(a i:Nat)(h:a<=i)(hi:i<s.size):ep s a (i+1)=10*ep s a i+(s[i].toNat-48):=by
 unfold ep;have hl:i-a<(s.data.toList.drop a).length:=by
  rw[List.length_drop,Array.length_toList];have:s.data.size=s.size:=rfl;omega
 rw[show i+1-a=(i-a)+1 by omega,List.take_succ_eq_append_getElem hl,bS,cD,List.getElem_drop,aU s i hi];simp only[show a+(i-a)=i by omega,List.length_singleton,Nat.pow_one];omega
def tq(s:ByteArray)(a e:Nat):Prop:=∀ i,a<=i->i<e->∃ h:i<s.size,48<=(s[i].toNat:Int)/\(s[i].toNat:Int)<=57
theorem kT(s:ByteArray)(a e i:Nat)(hd:tq s a e)(h:a<=i)(hi:i<=e):ep s a i<10 ^ (i-a):=by
 induction i with
 | zero => obtain rfl : a = 0 := by omega
           rw[ck];decide
 | succ i ih =>
  by_cases h0:a=i+1
  ·subst h0;rw[ck];exact Nat.pow_pos af
  ·have:=ih ae ae;obtain⟨hs,h1,h2⟩:=hd i ae ae;rw[eh s a i ae hs,show i+1-a=(i-a)+1 by omega,Nat.pow_succ];omega
theorem kU(s:ByteArray)(a e i:Nat)(hd:tq s a e)(h:a<=i)(hi:i<=e)(h9:i<a+9):ep s a i<100000000 :=
 Nat.lt_of_lt_of_le (kT s a e i hd h hi) (by
  have:10 ^ (i-a)<=10 ^ 8:=Nat.pow_le_pow_right af ae;exact this)
set_option maxHeartbeats 4000000 in
theorem uZ (s:ByteArray) (b0 e1:Nat) (mi fr:Bool) (w:World) (r1 r2:Int) (r3:Bool) (hsz:s.size<=1000000) (hs0:0<s.size)
    (hmi:(mi=true/\b0=1/\(s[0].toNat:Int)=45)∨(mi=false/\b0=0/\¬ (s[0].toNat:Int)=45))
    (hd1:tq s b0 e1) (h01:b0<e1)
    (hfr:(fr=true/\∃ h:e1<s.size,(s[e1].toNat:Int)=47)∨(fr=false/\e1=s.size)) (hd2:tq s (e1+1) s.size)
    (hr:Hid ((e1<=b0+9/\(fr=true->s.size<=e1+1+9)->r1=(if mi then -(ep s b0 e1:Int) else ep s b0 e1)/\r2=(if fr then(ep s (e1+1) s.size:Int) else 1)/\r3=true) /\
     (¬ (e1<=b0+9/\(fr=true->s.size<=e1+1+9))->r1=0/\r2=0/\r3=false))) :
    Calls prog 85 #[.string s] w fun e w'=>e = .returned (.tuple #[.int .i64 r1,.int .i64 r2,.bool r3])/\w=w':=by
 have HD1:=aj hd1;have HD2:=aj hd2;have HFR:=aj hfr;have hes:e1<=s.size:=by rcases hfr with⟨_,h,_⟩|⟨_,h⟩ <;> omega
 have hs0':(0:Int)<s.size:=ae;clear hd1 hd2 hfr;rcases hmi with⟨rfl,rfl,hm⟩|⟨rfl,rfl,hm⟩
 ·go_enter func85,ntmps85;go_wp2;go_loop [2,3,5] (fun n z i=>∃ (k N:Nat),1<=k/\k<=e1/\k<=1+9/\z = .int .i64 0/\i = .int .i64 k/\n = .int .i64 N/\N<1000000000/\Hid (N=ep s 1 k)) (fun _ _ i=>s.size-(intOf i).toNat)
  case atStart=>exact⟨1,0,Nat.le_refl _,ae,ae,rfl,rfl,rfl,ae,aj (ck s _).symm⟩
  case round =>
   obtain⟨k,N,hb,hke,hk9,rfl,rfl,rfl,hN,HN⟩:=hrel;by_cases hk:k<e1
   ·obtain⟨hks,d1,d2⟩:=HD1.o k hb hk;have hne:¬ (s[k].toNat:Int)=47:=ae;by_cases h9:k=1+9
    ·obtain⟨rfl,rfl,rfl⟩:=hr.out.2 ae;have h9a:1+9<=k:=ae;clear h9;go_wp2;go_ret3;exact⟨rfl,rfl⟩
    ·have hN8:N<100000000:=by rw[HN.o];exact kU s 1 e1 k HD1.o hb hke ae
     have hst:=eh s 1 k hb hks;have HST:=aj hst;clear hst;have h9':¬ ((k:Int)-1=9):=ae;go_wp2;go_round
     case rel=>exact⟨k+1,10*N+(s[k].toNat-48),ae,ae,ae,rfl,by go_num,by simp only[Value.int.injEq,true_and];omega,ae,aj (by rw[HST.o,HN.o])⟩
     case measure=>simp[intOf];omega
   ·obtain rfl:k=e1:=ae;rcases HFR.o with⟨rfl,h47s,h47⟩|⟨rfl,he⟩
    ·have h47i:(k:Int)<s.size:=ae;go_wp2;go_loop [2,3,5] (fun z n i=>∃ (j M:Nat),k+1<=j/\j<=s.size/\j<=k+1+9/\z = .int .i64 (-(N:Int))/\i = .int .i64 j/\n = .int .i64 M/\M<1000000000/\Hid (M=ep s (k+1) j)) (fun _ _ i=>s.size-(intOf i).toNat)
     case atStart=>exact⟨k+1,0,Nat.le_refl _,ae,ae,rfl,by go_num,rfl,ae,aj (ck s _).symm⟩
     case round =>
      obtain⟨j,M,hb',hje,hj9,rfl,rfl,rfl,hM,HM⟩:=hrel;by_cases hj:j<s.size
      ·obtain⟨hjs,d1,d2⟩:=HD2.o j hb' hj;by_cases h9:j=k+1+9
       ·obtain⟨rfl,rfl,rfl⟩:=hr.out.2 (by intro h;have:=h.2 (by first|rfl|trivial);omega);have h9a:k+1+9<=j:=ae;clear h9;go_wp2;go_ret3;exact⟨rfl,rfl⟩
       ·have hM8:M<100000000:=by rw[HM.o];exact kU s (k+1) s.size j HD2.o hb' hje ae
        have hst:=eh s (k+1) j hb' hjs;have HST:=aj hst;clear hst;have h9':¬ ((j:Int)-((k:Int)+1)=9):=ae;go_wp2;go_round
        case rel=>exact⟨j+1,10*M+(s[j].toNat-48),ae,ae,ae,rfl,by go_num,by simp only[Value.int.injEq,true_and];omega,ae,aj (by rw[HST.o,HM.o])⟩
        case measure=>simp[intOf];omega
      ·obtain rfl:s.size=j:=ae;have hfin:=hr.out.1 ⟨ae,fun _=>ae⟩;rw[← HN.o,← HM.o] at hfin;have HF:Hid (r1=-(N:Int)/\r2=M/\r3=true):=aj (by simpa using hfin);clear hfin;go_wp2;go_ret3;exact⟨by rw[HF.o.1,HF.o.2.1,HF.o.2.2];rfl,rfl⟩
    ·have hfin:=hr.out.1 ⟨ae,fun h=>by cases h⟩;rw[← HN.o] at hfin;have HF:Hid (r1=-(N:Int)/\r2=1/\r3=true):=aj (by simpa using hfin);have he':¬ ((k:Int)<s.size):=ae;have he2:(k:Int)=s.size:=ae;clear hfin;subst he;go_wp2;go_ret3;exact⟨by rw[HF.o.1,HF.o.2.1,HF.o.2.2];rfl,rfl⟩
 ·go_enter func85,ntmps85;go_wp2;go_loop [2,3,5] (fun n z i=>∃ (k N:Nat),0<=k/\k<=e1/\k<=0+9/\z = .int .i64 0/\i = .int .i64 k/\n = .int .i64 N/\N<1000000000/\Hid (N=ep s 0 k)) (fun _ _ i=>s.size-(intOf i).toNat)
  case atStart=>exact⟨0,0,Nat.le_refl _,ae,ae,rfl,rfl,rfl,ae,aj (ck s _).symm⟩
  case round =>
   obtain⟨k,N,hb,hke,hk9,rfl,rfl,rfl,hN,HN⟩:=hrel;by_cases hk:k<e1
   ·obtain⟨hks,d1,d2⟩:=HD1.o k hb hk;have hne:¬ (s[k].toNat:Int)=47:=ae;by_cases h9:k=0+9
    ·obtain⟨rfl,rfl,rfl⟩:=hr.out.2 ae;have h9a:0+9<=k:=ae;clear h9;go_wp2;go_ret3;exact⟨rfl,rfl⟩
    ·have hN8:N<100000000:=by rw[HN.o];exact kU s 0 e1 k HD1.o hb hke ae
     have hst:=eh s 0 k hb hks;have HST:=aj hst;clear hst;have h9':¬ ((k:Int)-0=9):=ae;go_wp2;go_round
     case rel=>exact⟨k+1,10*N+(s[k].toNat-48),ae,ae,ae,rfl,by go_num,by simp only[Value.int.injEq,true_and];omega,ae,aj (by rw[HST.o,HN.o])⟩
     case measure=>simp[intOf];omega
   ·obtain rfl:k=e1:=ae;rcases HFR.o with⟨rfl,h47s,h47⟩|⟨rfl,he⟩
    ·have h47i:(k:Int)<s.size:=ae;go_wp2;go_loop [2,3,5] (fun z n i=>∃ (j M:Nat),k+1<=j/\j<=s.size/\j<=k+1+9/\z = .int .i64 ((N:Int))/\i = .int .i64 j/\n = .int .i64 M/\M<1000000000/\Hid (M=ep s (k+1) j)) (fun _ _ i=>s.size-(intOf i).toNat)
     case atStart=>exact⟨k+1,0,Nat.le_refl _,ae,ae,rfl,by go_num,rfl,ae,aj (ck s _).symm⟩
     case round =>
      obtain⟨j,M,hb',hje,hj9,rfl,rfl,rfl,hM,HM⟩:=hrel;by_cases hj:j<s.size
      ·obtain⟨hjs,d1,d2⟩:=HD2.o j hb' hj;by_cases h9:j=k+1+9
       ·obtain⟨rfl,rfl,rfl⟩:=hr.out.2 (by intro h;have:=h.2 (by first|rfl|trivial);omega);have h9a:k+1+9<=j:=ae;clear h9;go_wp2;go_ret3;exact⟨rfl,rfl⟩
       ·have hM8:M<100000000:=by rw[HM.o];exact kU s (k+1) s.size j HD2.o hb' hje ae
        have hst:=eh s (k+1) j hb' hjs;have HST:=aj hst;clear hst;have h9':¬ ((j:Int)-((k:Int)+1)=9):=ae;go_wp2;go_round
        case rel=>exact⟨j+1,10*M+(s[j].toNat-48),ae,ae,ae,rfl,by go_num,by simp only[Value.int.injEq,true_and];omega,ae,aj (by rw[HST.o,HM.o])⟩
        case measure=>simp[intOf];omega
      ·obtain rfl:s.size=j:=ae;have hfin:=hr.out.1 ⟨ae,fun _=>ae⟩;rw[← HN.o,← HM.o] at hfin;have HF:Hid (r1=(N:Int)/\r2=M/\r3=true):=aj (by simpa using hfin);clear hfin;go_wp2;go_ret3;exact⟨by rw[HF.o.1,HF.o.2.1,HF.o.2.2];rfl,rfl⟩
    ·have hfin:=hr.out.1 ⟨ae,fun h=>by cases h⟩;rw[← HN.o] at hfin;have HF:Hid (r1=(N:Int)/\r2=1/\r3=true):=aj (by simpa using hfin);have he':¬ ((k:Int)<s.size):=ae;have he2:(k:Int)=s.size:=ae;clear hfin;subst he;go_wp2;go_ret3;exact⟨by rw[HF.o.1,HF.o.2.1,HF.o.2.2];rfl,rfl⟩
def jB(q:Rat):Prop:=q.num.natAbs<1000000000/\q.den<1000000000
theorem iG{s:ByteArray}{a d z:List UInt8}(h:s.data.toList=a ++ d ++ z)(hd:∀ b ∈ d,cC b=true):tq s a.length (a.length+d.length):=by
 intro i h1 h2;have hsz:s.size=(a ++ d ++ z).length:=by rw[← h,Array.length_toList];rfl
 have hi:i<s.size:=by rw[hsz];simp;omega
 refine⟨hi,?_⟩;have e:s[i]=d[i-a.length]'(by omega):=by
  rw[aU s i hi];simp only[h];rw[List.getElem_append_left (by simp;omega),List.getElem_append_right ae]
 have:=(b8 _).1 (hd _ (List.getElem_mem (show i-a.length<d.length by omega)));rw[e];omega
theorem jF{s:ByteArray}{a d z:List UInt8}(h:s.data.toList=a ++ d ++ z):ep s a.length (a.length+d.length)=val d:=by
 unfold ep;rw[h,List.append_assoc,List.drop_left,Nat.add_sub_cancel_left,List.take_left]
theorem kg(s:ByteArray):s.size=s.data.toList.length:=by rw[Array.length_toList];rfl
theorem xX (q:Rat):∃ (mi fr:Bool) (a z:List UInt8),ql q=a ++ Lib.decDigits q.num.natAbs ++ z /\
    ((mi=true/\a=[45]/\q.num<0)∨(mi=false/\a=[]/\0<=q.num))/\((fr=true/\z=47 :: Lib.decDigits q.den/\q.den≠1)∨(fr=false/\z=[]/\q.den=1)):=by
 have e:∃ (mi:Bool) (a:List UInt8),zl q.num=a ++ Lib.decDigits q.num.natAbs/\((mi=true/\a=[45]/\q.num<0)∨(mi=false/\a=[]/\0<=q.num)):=by
  rcases Int.lt_or_le q.num 0 with h|h
  ·exact⟨true,[45],bZ h,Or.inl ⟨rfl,rfl,h⟩⟩
  ·exact⟨false,[],bI h,Or.inr ⟨rfl,rfl,h⟩⟩
 obtain⟨mi,a,e1,e2⟩:=e;by_cases h:q.den=1
 ·exact⟨mi,false,a,[],by rw[dt h,e1,List.append_nil],e2,Or.inr ⟨rfl,rfl,h⟩⟩
 ·exact⟨mi,true,a,_,by rw[cu h,e1],e2,Or.inl ⟨rfl,rfl,h⟩⟩
theorem rE(n:Nat):(Lib.decDigits n).length<=9 ↔ n<1000000000 :=
 ⟨fun h=>bN (k:=9) h,fun h=>bB (k:=9) af h⟩
theorem nX (q:Rat) {k:Nat} (w:World) (hq:QB k q) (hk:k<=9000) (r1 r2:Int) (r3:Bool) (hr:Hid ((jB q->r1=q.num/\r2=q.den/\r3=true)/\(¬ jB q->r1=0/\r2=0/\r3=false))) :
    Calls prog 85 #[.string (qs q)] w fun e w'=>e = .returned (.tuple #[.int .i64 r1,.int .i64 r2,.bool r3])/\w=w':=by
 have hl:=hq.len hk;obtain⟨mi,fr,a,z,e,hmi,hfr⟩:=xX q;have es:(qs q).data.toList=a ++ Lib.decDigits q.num.natAbs ++ z:=by rw[dN,e]
 have hd:=a7 q.num.natAbs;have hne:=gi q.num.natAbs;have hsz:(qs q).size=a.length+(Lib.decDigits q.num.natAbs).length+z.length:=by rw[kg,es];simp;omega
 have h0:0<(qs q).size:=ae;have hsv:=jF es;rw[cG] at hsv;have hal:a.length=if mi then 1 else 0:=by rcases hmi with⟨rfl,rfl,_⟩|⟨rfl,rfl,_⟩ <;> rfl
 have hz2:tq (qs q) (a.length+(Lib.decDigits q.num.natAbs).length+1) (qs q).size/\(fr=true->ep (qs q) (a.length+(Lib.decDigits q.num.natAbs).length+1) (qs q).size=q.den):=by
  rcases hfr with⟨rfl,rfl,_⟩|⟨rfl,rfl,_⟩
  ·have es2:(qs q).data.toList=(a ++ Lib.decDigits q.num.natAbs ++ [47]) ++ Lib.decDigits q.den ++ []:=by rw[es];simp
   have h1:=iG es2 (a7 q.den);have h2:=jF es2;rw[cG] at h2;have e1:(a ++ Lib.decDigits q.num.natAbs ++ [47]).length=a.length+(Lib.decDigits q.num.natAbs).length+1:=by simp;omega
   rw[e1] at h1 h2;have e2:a.length+(Lib.decDigits q.num.natAbs).length+1+(Lib.decDigits q.den).length=(qs q).size:=by rw[hsz];simp;omega
   rw[e2] at h1 h2;exact⟨h1,fun _=>h2⟩
  ·exact⟨fun i h1 h2=>by rw[hsz] at h2;simp at h2;omega,fun h=>by cases h⟩
 have key:jB q ↔ (a.length+(Lib.decDigits q.num.natAbs).length<=a.length+9/\(fr=true->(qs q).size<=a.length+(Lib.decDigits q.num.natAbs).length+1+9)):=by
  unfold jB;rw[← rE,← rE,hsz];rcases hfr with⟨rfl,rfl,_⟩|⟨rfl,rfl,h1⟩
  ·simp;omega
  ·simp only[h1,lD];simp
 refine uZ (qs q) a.length (a.length+(Lib.decDigits q.num.natAbs).length) mi fr w r1 r2 r3 hl h0 ?_ (iG es hd) ae ?_ hz2.1 (aj ⟨fun h=>?_,fun h=>hr.out.2 (fun e=>h (key.1 e))⟩)
 ·rcases hmi with⟨rfl,rfl,_⟩|⟨rfl,rfl,hn⟩
  ·refine Or.inl ⟨rfl,rfl,?_⟩;rw[aU _ 0 h0];simp only[es];rfl
  ·refine Or.inr ⟨rfl,rfl,?_⟩;obtain⟨_,h1,_⟩:=iG es hd 0 (by simp) (by simp;omega);omega
 ·rcases hfr with⟨rfl,rfl,_⟩|⟨rfl,rfl,_⟩
  ·refine Or.inl ⟨rfl,by rw[hsz];simp,?_⟩;rw[aU _ _ (by rw[hsz];simp)];simp only[es];rw[List.getElem_append_right (by simp)];simp
  ·exact Or.inr ⟨rfl,by rw[hsz];simp⟩
 ·obtain⟨g1,g2,g3⟩:=hr.out.1 (key.2 h);refine⟨?_,?_,g3⟩
  ·rw[g1,hsv];rcases hmi with⟨rfl,rfl,hn⟩|⟨rfl,rfl,hn⟩ <;> simp <;> omega
  ·rw[g2];rcases hfr with⟨rfl,rfl,_⟩|⟨rfl,rfl,h1⟩
   ·rw[hz2.2 rfl];rfl
   ·simp[h1]
theorem bU (q:Rat) (w:World) (h:jB q) :
    Calls prog 85 #[.string (qs q)] w fun e w'=>e = .returned (.tuple #[.int .i64 q.num,.int .i64 q.den,.bool true])/\w=w' :=
 nX q w (k:=9) ⟨h.1,h.2⟩ af _ _ _ (aj ⟨fun _=>⟨rfl,rfl,rfl⟩,fun h'=>absurd h h'⟩)
theorem fB (q:Rat) {k:Nat} (w:World) (hq:QB k q) (hk:k<=9000) (h:¬ jB q) :
    Calls prog 85 #[.string (qs q)] w fun e w'=>e = .returned (.tuple #[.int .i64 0,.int .i64 0,.bool false])/\w=w' :=
 nX q w hq hk _ _ _ (aj ⟨fun h'=>absurd h' h,fun _=>⟨rfl,rfl,rfl⟩⟩)
theorem bT{s:ByteArray}{t:ByteArray}(h:s=t):Ending.returned (.string s) = .returned (.string t):=by rw[h]
theorem Aa (n:Int) (d:Nat) (w:World) (g:Gd w) (hn:n.natAbs<=4000000000000000000) (hd:d≠0) (hd2:d<=4000000000000000000) :
    Calls prog 187 #[.int .i64 n,.int .i64 d] w (aR w (.string (qs (mkRat n d)))):=by
 have HN:=aj hn;have HD:=aj hd;have HD2:=aj hd2;have HG:=aj g;clear hn hd hd2 g;go_enter func187,ntmps187;go_wp2;go_loopw [5,6] (fun x y W=>∃ X Y:Int,x = .int .i64 X/\y = .int .i64 Y/\Int.gcd X Y=Int.gcd n d/\X.natAbs<=4000000000000000000/\Y.natAbs<=4000000000000000000/\Ext w W)
  (fun _ y _=>(intOf y).natAbs)
 case atStart=>exact⟨n,d,rfl,rfl,rfl,HN.o,by have:=HD2.o;omega,Ext.refl _⟩
 case round =>
  obtain⟨X,Y,rfl,rfl,hg,hX,hY,hx⟩:=hrel;have HGC:=aj hg;have HX:=aj hX;have HY:=aj hY;have x1:-4000000000000000000<=X:=ae;have x2:X<=4000000000000000000:=ae;have y1:-4000000000000000000<=Y:=ae;have y2:Y<=4000000000000000000:=ae;clear hg hX hY;by_cases h0:Y=0
  ·subst h0;have hf:Int.gcd n d=X.natAbs:=by rw[← HGC.o,Int.gcd_zero]
   obtain⟨G,hG⟩:∃ G:Nat,G=X.natAbs:=⟨_,rfl⟩
   rw[← hG] at hf;have hG0:G≠0:=by
    intro e;rw[e] at hf;exact absurd hf (Int.gcd_ne_zero_right (by have:=HD.o;omega))
   have hdv:(G:Int)∣n:=by rw[← hf];exact Int.gcd_dvd_left _ _
   have eq:=qI (n:=n) (d:=d) (g:=G) HD.o hf;have hGd:G<=d:=by rw[← hf];have:=Int.gcd_le_natAbs_right n (b:=(d:Int)) (by have:=HD.o;omega);simpa using this
   have HF:=aj hf;have HEQ:=aj eq;have HDV:=aj hdv;have HGE:=aj hG;obtain⟨N',hN'⟩:∃ N',N'=n.tdiv G:=⟨_,rfl⟩
   obtain⟨D',hD'⟩:∃ D',D'=d / G:=⟨_,rfl⟩
   have hNa:N'.natAbs<=4000000000000000000:=by
    rw[hN',Int.natAbs_tdiv];exact Nat.le_trans (Nat.div_le_self _ _) HN.o
   have hDa:D'<=4000000000000000000:=by rw[hD'];exact Nat.le_trans (Nat.div_le_self _ _) HD2.o
   have n1:-4000000000000000000<=N':=ae;have n2:N'<=4000000000000000000:=ae;have d2:(D':Int)<=4000000000000000000:=ae;have q1:IntKind.i64.wrap (n.tdiv G)=N':=by rw[← hN'];exact IntWalk.i64_in _ ae
   have q2:(d:Int) / (G:Int)=(D':Int):=by rw[hD'];simp
   have q3:(d:Int).tdiv (G:Int)=(D':Int):=by rw[hD'];rfl
   have q4:IntKind.i64.wrap (D':Int)=(D':Int):=IntWalk.i64_in _ ae;rw[← hN',← hD'] at HEQ;have HND:=aj (And.intro hN' hD');have gpos:1<=(G:Int):=ae;have hne:¬ (G:Int)=0:=ae;have hne2:¬ G=0:=hG0;clear hf eq hdv hG hN' hD' hNa hDa hG0 hGd;by_cases hneg:X<0
   ·have eX:-X=(G:Int):=by have:=HGE.o;omega
    by_cases h1:D'=1
    ·subst h1;have e1:(⟨(ee N' 1).toArray⟩:ByteArray)=zs N':=rfl;have E1:=aj e1;clear e1;go_wp2;go_region
     all_goals
      go_wp2_with (go_at_call 193;refine cto (fS N' ae ae _ (HG.o.ext hx.drew)) fun w3 e3=>?_);go_ret;exact⟨bT (by unfold qs;rw[HEQ.o];rfl),hx.drew.trans e3⟩
    ·have h1':¬ (D':Int)=1:=ae;have e1:=gV N' D';have s1:(zs N').size<=100:=by
      rw[dB];have:=fu (n:=N') (k:=19) af ae;omega
     have s2:(zs (D':Int)).size<=100:=by
      rw[dB];have:=fu (n:=(D':Int)) (k:=19) af ae;omega
     have e2:qs (mkRat n d)=zs N' ++ (⟨#[47]⟩:ByteArray) ++ zs (D':Int):=by
      rw[e1];unfold qs;rw[HEQ.o];unfold ee;rw[if_neg h1]
     have E2:=aj e2;clear e1 e2 h1;go_wp2;go_region
     all_goals
      go_wp2_with (first
       | (go_at_call 193;((with_reducible refine(fS N' ae ae wr.drew (HG.o.ext hx.drew)).mono ?_);rintro e w3 ⟨rfl,e3⟩))
       | (go_at_call 193;refine cto (fS (D':Int) ae ae _ (HG.o.ext (hx.drew.trans e3))) fun w4 e4=>?_))
      go_ret;exact⟨bT E2.out.symm,(hx.drew.trans e3).trans e4⟩
   ·obtain rfl:X=(G:Int):=by have:=HGE.o;omega
    by_cases h1:D'=1
    ·subst h1;have e1:(⟨(ee N' 1).toArray⟩:ByteArray)=zs N':=rfl;have E1:=aj e1;clear e1;go_wp2;go_region
     all_goals
      go_wp2_with (go_at_call 193;refine cto (fS N' ae ae _ (HG.o.ext hx.drew)) fun w3 e3=>?_);go_ret;exact⟨bT (by unfold qs;rw[HEQ.o];rfl),hx.drew.trans e3⟩
    ·have h1':¬ (D':Int)=1:=ae;have e1:=gV N' D';have s1:(zs N').size<=100:=by
      rw[dB];have:=fu (n:=N') (k:=19) af ae;omega
     have s2:(zs (D':Int)).size<=100:=by
      rw[dB];have:=fu (n:=(D':Int)) (k:=19) af ae;omega
     have e2:qs (mkRat n d)=zs N' ++ (⟨#[47]⟩:ByteArray) ++ zs (D':Int):=by
      rw[e1];unfold qs;rw[HEQ.o];unfold ee;rw[if_neg h1]
     have E2:=aj e2;clear e1 e2 h1;go_wp2;go_region
     all_goals
      go_wp2_with (first
       | (go_at_call 193;((with_reducible refine(fS N' ae ae wr.drew (HG.o.ext hx.drew)).mono ?_);rintro e w3 ⟨rfl,e3⟩))
       | (go_at_call 193;refine cto (fS (D':Int) ae ae _ (HG.o.ext (hx.drew.trans e3))) fun w4 e4=>?_))
      go_ret;exact⟨bT E2.out.symm,(hx.drew.trans e3).trans e4⟩
  ·have hs:=rh X Y;have hm:=Int.natAbs_tmod X Y;have hlt:=Nat.mod_lt X.natAbs (show 0<Y.natAbs by omega);have HS:=aj hs;have HL:=aj (show(X.tmod Y).natAbs<Y.natAbs by omega);clear hs hm hlt;go_wp2;go_region
   all_goals
    go_roundw
    case rel=>(repeat apply Exists.intro);exact⟨⟨Y,X.tmod Y,rfl,rfl,by rw[HS.o,HGC.o],HY.o,by have:=HL.o;have:=HY.o;omega,hx.drew⟩,rfl⟩
    case measure=>have:=HL.o;simpa[intOf] using this
theorem eU{q:Rat}(h:q=0):((qs q).toList == [48])=true:=by rw[fC,sx.2 h];rfl
theorem a6{q:Rat}(h:q≠0):((qs q).toList == [48])=false:=by rw[fC];simpa using fun e=>h (sx.1 e)
theorem xV{q:Rat}(h:q=1):((qs q).toList == [49])=true:=by rw[fC,sw.2 h];rfl
theorem jL{q:Rat}(h:q≠1):((qs q).toList == [49])=false:=by rw[fC];simpa using fun e=>h (sw.1 e)
theorem sn(q:Rat):0<(qs q).size:=by rw[jK];exact List.length_pos_iff.2 (DC q)
theorem uq:∀ (l:List UInt8) (h:0<l.length),((l[0].toNat:Int)=45 ↔ l.head?=some 45)
 | b :: t,_=>by
  simp only[List.getElem_cons_zero,List.head?_cons,Option.some.injEq];constructor
  ·intro e;apply UInt8.toNat_inj.1;show b.toNat=45;omega
  ·intro e;rw[e];rfl
theorem iP(q:Rat)(h:0<(qs q).size):((qs q)[0].toNat:Int)=45 ↔ q.num<0:=by
 rw[← qJ,aU _ 0 h,uq,dN]
theorem pz{q:Rat}(h:q≠0):q.num≠0:=fun e=>h (Rat.num_eq_zero.1 e)
theorem di(q:Rat)(w:World):Calls prog 31 #[.string (qs q)] w fun e w'=>e = .returned (.int .i64 q.num.sign)/\w=w':=by
 have hp:=sn q;have hp':(0:Int)<(qs q).size:=ae;by_cases h0:q=0
 ·have h1:=eU h0;have H:Hid (q.num.sign=0):=aj (by subst h0;rfl);clear h0;go_enter func31,ntmps31;go_wp2;go_ret;exact⟨by rw[H.o];rfl,rfl⟩
 ·have h1:=a6 h0;by_cases hn:q.num<0
  ·have h2:=(iP q hp).2 hn;have H:Hid (q.num.sign=-1):=aj (Int.sign_eq_neg_one_of_neg hn);clear h0 hn;go_enter func31,ntmps31;go_wp2;go_ret;exact⟨by rw[H.o];rfl,rfl⟩
  ·have h2:¬ ((qs q)[0].toNat:Int)=45:=fun e=>hn ((iP q hp).1 e)
   have H:Hid (q.num.sign=1):=aj (Int.sign_eq_one_of_pos (by have:=pz h0;omega));clear h0 hn;go_enter func31,ntmps31;go_wp2;go_ret;exact⟨by rw[H.o];rfl,rfl⟩
theorem jk{q:Rat}(h:0<q.num):(⟨#[45]⟩:ByteArray) ++ qs q=qs (-q):=by
 apply bO;rw[dN,ss h,ByteArray.data_append,Array.toList_append,dN];rfl
theorem Aq{q:Rat}(h:q.num<0):(qs q).extract 1 (qs q).size=qs (-q):=by
 apply bO;rw[ByteArray.data_extract,Array.toList_extract,dN,dN,jK,mh h];simp
theorem gJ(q:Rat){k:Nat}(w:World)(hq:QB k q)(hk:k<=9000):Calls prog 62 #[.string (qs q)] w (aR w (.string (qs (-q)))):=by
 have hp:=sn q;have hl:=hq.len hk;have hp':(0:Int)<(qs q).size:=ae;have hp1:1<=(qs q).size:=hp;clear hq;by_cases h0:q=0
 ·have h1:=eU h0;have H:Hid (qs (-q)=qs q):=aj (by subst h0;rfl);clear h0;go_enter func62,ntmps62;go_wp2;go_ret;exact⟨bT H.o.symm,Ext.refl _⟩
 ·have h1:=a6 h0;by_cases hn:q.num<0
  ·have h2:=(iP q hp).2 hn;have H:=aj (Aq hn);clear h0 hn;go_enter func62,ntmps62;go_wp2;go_ret;exact⟨bT H.o,Ext.refl _⟩
  ·have h2:¬ ((qs q)[0].toNat:Int)=45:=fun e=>hn ((iP q hp).1 e)
   have H:=aj (jk (q:=q) (by have:=pz h0;omega));clear h0 hn;go_enter func62,ntmps62;go_wp2;go_ret;exact⟨bT H.o,Ext.refl _⟩
theorem qC (n D:Int) (d:Nat) (w:World) (g:Gd w) (hD:D=(d:Int)) (hn:n.natAbs<=4000000000000000000) (hd:d≠0) (hd2:d<=4000000000000000000) :
    Calls prog 187 #[.int .i64 n,.int .i64 D] w (aR w (.string (qs (mkRat n d)))):=by
 subst hD;exact Aa n d w g hn hd hd2
theorem gL{a b:Int}(ha:a.natAbs<1000000000)(hb:b.natAbs<1000000000):-1000000000000000000<=a*b/\a*b<=1000000000000000000:=by
 have h:(a*b).natAbs<=1000000000*1000000000:=by rw[Int.natAbs_mul];exact Nat.mul_le_mul (Nat.le_of_lt ha) (Nat.le_of_lt hb)
 omega
theorem qT{a b:Nat}(ha:a<1000000000)(hb:b<1000000000):a*b<=1000000000000000000:=by
 have h:a*b<=1000000000*1000000000:=Nat.mul_le_mul (Nat.le_of_lt ha) (Nat.le_of_lt hb);omega
set_option maxHeartbeats 1000000 in
theorem sk(a b:Rat)(w:World)(g:Gd w)(ha:jB a)(hb:jB b)(ha0:a≠0)(hb0:b≠0):Calls prog 115 #[.string (qs a),.string (qs b)] w (aR w (.string (qs (a+b)))):=by
 have h1:=a6 ha0;have h2:=a6 hb0;have E:=aj (Rat.add_def' a b);have HA:=aj ha;have HB:=aj hb;have HG:=aj g;obtain⟨p1,p2⟩:=gL (a:=a.num) (b:=(b.den:Int)) ha.1 (by rw[Int.natAbs_natCast];exact hb.2);obtain⟨p3,p4⟩:=gL (a:=b.num) (b:=(a.den:Int)) hb.1 (by rw[Int.natAbs_natCast];exact ha.2);obtain⟨p5,p6⟩:=gL (a:=(a.den:Int)) (b:=(b.den:Int)) (by rw[Int.natAbs_natCast];exact ha.2) (by rw[Int.natAbs_natCast];exact hb.2);have p7:=qT ha.2 hb.2;have P7:=aj p7;have P8:=aj (Nat.mul_ne_zero a.den_nz b.den_nz);have P9:=aj (Int.natCast_mul a.den b.den).symm;clear ha hb ha0 hb0 g p7;go_enter func115,ntmps115;go_wp2_with (first
  | (go_at_call 85;((with_reducible refine(bU a _ HA.o).mono ?_);rintro e w' ⟨rfl,rfl⟩))
  | (go_at_call 85;refine(bU b _ HB.o).mono ?_;rintro e w' ⟨rfl,rfl⟩)
  | (go_at_call 187;refine cto (qC (a.num*b.den+b.num*a.den) _ (a.den*b.den) _ HG.o P9.out ae P8.out (by have:=P7.out;omega)) fun w1 e1=>?_))
 go_ret;exact⟨bT (by rw[E.out]),e1⟩
theorem xT(a b:Rat){k m:Nat}(w:World)(g:Gd w)(qa:QB k a)(qb:QB m b)(hk:k<=3000)(hm:m<=3000)(h:¬ (jB a/\jB b))(ha0:a≠0)(hb0:b≠0):Calls prog 115 #[.string (qs a),.string (qs b)] w (aR w (.string (qs (a+b)))):=by
 have h1:=a6 ha0;have h2:=a6 hb0;have E:=aj (Rat.add_def' a b);have HG:=aj g;have QA:=aj qa;have QB':=aj qb;have P8:=aj (Nat.mul_ne_zero a.den_nz b.den_nz);have P9:Hid ((a.den:Int)*(b.den:Int)=((a.den*b.den:Nat):Int)):=aj (Int.natCast_mul a.den b.den).symm;have IBD:Hid (IB (k+m) ((a.den*b.den:Nat):Int)):=aj (by rw[← P9.out];exact qa.bY.mul qb.bY);clear ha0 hb0 g qa qb;by_cases hsa:jB a
 ·have hsb:¬ jB b:=fun e=>h ⟨hsa,e⟩
  have HA:=aj hsa;have HB:=aj hsb;clear h hsa hsb;go_enter func115,ntmps115;go_wp2_with (first
   | (go_at_call 85;((with_reducible refine(bU a _ HA.o).mono ?_);rintro e w' ⟨rfl,rfl⟩))
   | (go_at_call 85;refine(fB b _ QB'.out ae HB.o).mono ?_;rintro e w' ⟨rfl,rfl⟩)
   | (go_at_call 86;((with_reducible refine(cY a w QA.out ae).mono ?_);rintro e w1 ⟨rfl,e1⟩))
   | (go_at_call 86;refine cto (cY b w1 QB'.out ae) fun w2 e2=>?_;have e12:=Ext.trans e1 e2)
   | (go_at_call 88;((with_reducible refine(gd a.num b.den w2 (HG.o.ext e12) QA.out.cB QB'.out.bY ae ae).mono ?_);rintro e w3 ⟨rfl,e3⟩;have e13:=e12.trans e3))
   | (go_at_call 88;((with_reducible refine(gd b.num a.den w3 (HG.o.ext e13) QB'.out.cB QA.out.bY ae ae).mono ?_);rintro e w4 ⟨rfl,e4⟩;have e14:=e13.trans e4))
   | (go_at_call 189;refine cto (BD _ _ _ (HG.o.ext e14) (QA.out.cB.mul QB'.out.bY) (QB'.out.cB.mul QA.out.bY) ae ae) fun w5 e5=>?_;have e15:=e14.trans e5)
   | (go_at_call 88;refine(gd (a.den:Int) b.den _ (HG.o.ext e15) QA.out.bY QB'.out.bY ae ae).mono ?_;rw[P9.out];rintro e w6 ⟨rfl,e6⟩;have e16:=e15.trans e6)
   | (go_at_call 188;refine cto (gU _ (a.den*b.den) P8.out _ (HG.o.ext e16) ((QA.out.cB.mul QB'.out.bY).add (QB'.out.cB.mul QA.out.bY)) IBD.out ae ae) fun w7 e7=>?_))
  go_ret;exact⟨bT (by rw[E.out]),e16.trans e7⟩
 ·have HA:=aj hsa;clear h hsa;go_enter func115,ntmps115;go_wp2_with (first
   | (go_at_call 85;refine(fB a _ QA.out ae HA.o).mono ?_;rintro e w' ⟨rfl,rfl⟩)
   | (go_at_call 86;((with_reducible refine(cY a w QA.out ae).mono ?_);rintro e w1 ⟨rfl,e1⟩))
   | (go_at_call 86;refine cto (cY b w1 QB'.out ae) fun w2 e2=>?_;have e12:=Ext.trans e1 e2)
   | (go_at_call 88;((with_reducible refine(gd a.num b.den w2 (HG.o.ext e12) QA.out.cB QB'.out.bY ae ae).mono ?_);rintro e w3 ⟨rfl,e3⟩;have e13:=e12.trans e3))
   | (go_at_call 88;((with_reducible refine(gd b.num a.den w3 (HG.o.ext e13) QB'.out.cB QA.out.bY ae ae).mono ?_);rintro e w4 ⟨rfl,e4⟩;have e14:=e13.trans e4))
   | (go_at_call 189;refine cto (BD _ _ _ (HG.o.ext e14) (QA.out.cB.mul QB'.out.bY) (QB'.out.cB.mul QA.out.bY) ae ae) fun w5 e5=>?_;have e15:=e14.trans e5)
   | (go_at_call 88;refine(gd (a.den:Int) b.den _ (HG.o.ext e15) QA.out.bY QB'.out.bY ae ae).mono ?_;rw[P9.out];rintro e w6 ⟨rfl,e6⟩;have e16:=e15.trans e6)
   | (go_at_call 188;refine cto (gU _ (a.den*b.den) P8.out _ (HG.o.ext e16) ((QA.out.cB.mul QB'.out.bY).add (QB'.out.cB.mul QA.out.bY)) IBD.out ae ae) fun w7 e7=>?_))
  go_ret;exact⟨bT (by rw[E.out]),e16.trans e7⟩
theorem mf(a b:Rat){k m:Nat}(w:World)(g:Gd w)(qa:QB k a)(qb:QB m b)(hk:k<=3000)(hm:m<=3000):Calls prog 115 #[.string (qs a),.string (qs b)] w (aR w (.string (qs (a+b)))):=by
 by_cases ha0:a=0
 ·have h1:=eU ha0;have E:Hid (qs (a+b)=qs b):=aj (by subst ha0;rw[Rat.zero_add]);clear ha0 qa qb;go_enter func115,ntmps115;go_wp2;go_ret;exact⟨bT E.out.symm,Ext.refl _⟩
 ·by_cases hb0:b=0
  ·have h1:=a6 ha0;have h2:=eU hb0;have E:Hid (qs (a+b)=qs a):=aj (by subst hb0;rw[Rat.add_zero]);clear ha0 hb0 qa qb;go_enter func115,ntmps115;go_wp2;go_ret;exact⟨bT E.out.symm,Ext.refl _⟩
  ·by_cases h:jB a/\jB b
   ·exact sk a b w g h.1 h.2 ha0 hb0
   ·exact xT a b w g qa qb hk hm h ha0 hb0
set_option maxHeartbeats 1000000 in
theorem se(a b:Rat)(w:World)(g:Gd w)(ha:jB a)(hb:jB b)(ha0:a≠0)(hb0:b≠0)(ha1:a≠1)(hb1:b≠1):Calls prog 116 #[.string (qs a),.string (qs b)] w (aR w (.string (qs (a*b)))):=by
 have h1:=a6 ha0;have h2:=a6 hb0;have h3:=jL ha1;have h4:=jL hb1;have E:=aj (Rat.mul_def' a b);have HA:=aj ha;have HB:=aj hb;have HG:=aj g;obtain⟨p1,p2⟩:=gL (a:=a.num) (b:=b.num) ha.1 hb.1;obtain⟨p5,p6⟩:=gL (a:=(a.den:Int)) (b:=(b.den:Int)) (by rw[Int.natAbs_natCast];exact ha.2) (by rw[Int.natAbs_natCast];exact hb.2);have p7:=qT ha.2 hb.2;have P7:=aj p7;have P8:=aj (Nat.mul_ne_zero a.den_nz b.den_nz);have P9:=aj (Int.natCast_mul a.den b.den).symm;clear ha hb ha0 hb0 ha1 hb1 g p7;go_enter func116,ntmps116;go_wp2_with (first
  | (go_at_call 85;((with_reducible refine(bU a _ HA.o).mono ?_);rintro e w' ⟨rfl,rfl⟩))
  | (go_at_call 85;refine(bU b _ HB.o).mono ?_;rintro e w' ⟨rfl,rfl⟩)
  | (go_at_call 187;refine cto (qC (a.num*b.num) _ (a.den*b.den) _ HG.o P9.out ae P8.out (by have:=P7.out;omega)) fun w1 e1=>?_))
 go_ret;exact⟨bT (by rw[E.out]),e1⟩
theorem xK(a b:Rat){k m:Nat}(w:World)(g:Gd w)(qa:QB k a)(qb:QB m b)(hk:k<=3000)(hm:m<=3000)(h:¬ (jB a/\jB b))(ha0:a≠0)(hb0:b≠0)(ha1:a≠1)(hb1:b≠1):Calls prog 116 #[.string (qs a),.string (qs b)] w (aR w (.string (qs (a*b)))):=by
 have h1:=a6 ha0;have h2:=a6 hb0;have h3:=jL ha1;have h4:=jL hb1;have E:=aj (Rat.mul_def' a b);have HG:=aj g;have QA:=aj qa;have QB':=aj qb;have P8:=aj (Nat.mul_ne_zero a.den_nz b.den_nz);have P9:Hid ((a.den:Int)*(b.den:Int)=((a.den*b.den:Nat):Int)):=aj (Int.natCast_mul a.den b.den).symm;have IBD:Hid (IB (k+m) ((a.den*b.den:Nat):Int)):=aj (by rw[← P9.out];exact qa.bY.mul qb.bY);clear ha0 hb0 ha1 hb1 g qa qb;by_cases hsa:jB a
 ·have hsb:¬ jB b:=fun e=>h ⟨hsa,e⟩
  have HA:=aj hsa;have HB:=aj hsb;clear h hsa hsb;go_enter func116,ntmps116;go_wp2_with (first
   | (go_at_call 85;((with_reducible refine(bU a _ HA.o).mono ?_);rintro e w' ⟨rfl,rfl⟩))
   | (go_at_call 85;refine(fB b _ QB'.out ae HB.o).mono ?_;rintro e w' ⟨rfl,rfl⟩)
   | (go_at_call 86;((with_reducible refine(cY a w QA.out ae).mono ?_);rintro e w1 ⟨rfl,e1⟩))
   | (go_at_call 86;refine cto (cY b w1 QB'.out ae) fun w2 e2=>?_;have e12:=Ext.trans e1 e2)
   | (go_at_call 88;((with_reducible refine(gd a.num b.num w2 (HG.o.ext e12) QA.out.cB QB'.out.cB ae ae).mono ?_);rintro e w5 ⟨rfl,e5⟩;have e15:=e12.trans e5))
   | (go_at_call 88;refine(gd (a.den:Int) b.den _ (HG.o.ext e15) QA.out.bY QB'.out.bY ae ae).mono ?_;rw[P9.out];rintro e w6 ⟨rfl,e6⟩;have e16:=e15.trans e6)
   | (go_at_call 188;refine cto (gU _ (a.den*b.den) P8.out _ (HG.o.ext e16) (QA.out.cB.mul QB'.out.cB) IBD.out ae ae) fun w7 e7=>?_))
  go_ret;exact⟨bT (by rw[E.out]),e16.trans e7⟩
 ·have HA:=aj hsa;clear h hsa;go_enter func116,ntmps116;go_wp2_with (first
   | (go_at_call 85;refine(fB a _ QA.out ae HA.o).mono ?_;rintro e w' ⟨rfl,rfl⟩)
   | (go_at_call 86;((with_reducible refine(cY a w QA.out ae).mono ?_);rintro e w1 ⟨rfl,e1⟩))
   | (go_at_call 86;refine cto (cY b w1 QB'.out ae) fun w2 e2=>?_;have e12:=Ext.trans e1 e2)
   | (go_at_call 88;((with_reducible refine(gd a.num b.num w2 (HG.o.ext e12) QA.out.cB QB'.out.cB ae ae).mono ?_);rintro e w5 ⟨rfl,e5⟩;have e15:=e12.trans e5))
   | (go_at_call 88;refine(gd (a.den:Int) b.den _ (HG.o.ext e15) QA.out.bY QB'.out.bY ae ae).mono ?_;rw[P9.out];rintro e w6 ⟨rfl,e6⟩;have e16:=e15.trans e6)
   | (go_at_call 188;refine cto (gU _ (a.den*b.den) P8.out _ (HG.o.ext e16) (QA.out.cB.mul QB'.out.cB) IBD.out ae ae) fun w7 e7=>?_))
  go_ret;exact⟨bT (by rw[E.out]),e16.trans e7⟩
theorem gK(a b:Rat){k m:Nat}(w:World)(g:Gd w)(qa:QB k a)(qb:QB m b)(hk:k<=3000)(hm:m<=3000):Calls prog 116 #[.string (qs a),.string (qs b)] w (aR w (.string (qs (a*b)))):=by
 by_cases ha0:a=0
 ·have h1:=eU ha0;have E:Hid (qs (a*b)=⟨#[48]⟩):=aj (by subst ha0;rw[Rat.zero_mul,cX]);clear ha0 qa qb;go_enter func116,ntmps116;go_wp2;go_ret;exact⟨bT E.out.symm,Ext.refl _⟩
 ·by_cases hb0:b=0
  ·have h1:=a6 ha0;have h2:=eU hb0;have E:Hid (qs (a*b)=⟨#[48]⟩):=aj (by subst hb0;rw[Rat.mul_zero,cX]);clear ha0 hb0 qa qb;go_enter func116,ntmps116;go_wp2;go_ret;exact⟨bT E.out.symm,Ext.refl _⟩
  ·by_cases ha1:a=1
   ·have h1:=a6 ha0;have h2:=a6 hb0;have h3:=xV ha1;have E:Hid (qs (a*b)=qs b):=aj (by subst ha1;rw[Rat.one_mul]);clear ha0 hb0 ha1 qa qb;go_enter func116,ntmps116;go_wp2;go_ret;exact⟨bT E.out.symm,Ext.refl _⟩
   ·by_cases hb1:b=1
    ·have h1:=a6 ha0;have h2:=a6 hb0;have h3:=jL ha1;have h4:=xV hb1;have E:Hid (qs (a*b)=qs a):=aj (by subst hb1;rw[Rat.mul_one]);clear ha0 hb0 ha1 hb1 qa qb;go_enter func116,ntmps116;go_wp2;go_ret;exact⟨bT E.out.symm,Ext.refl _⟩
    ·by_cases h:jB a/\jB b
     ·exact se a b w g h.1 h.2 ha0 hb0 ha1 hb1
     ·exact xK a b w g qa qb hk hm h ha0 hb0 ha1 hb1
theorem Cc(b:Rat)(hb:b≠0):(⟨(ee (b.num.sign*b.den) b.num.natAbs).toArray⟩:ByteArray)=qs b⁻¹:=by
 unfold qs;rw[tN,Rat.num_inv,Rat.den_inv,if_neg (pz hb)]
theorem nG{b:Rat}(h:0<b.num):b.num.sign*b.den=b.den/\(b.num.natAbs:Int)=b.num:=by
 rw[Int.sign_eq_one_of_pos h,Int.one_mul];exact⟨rfl,ae⟩
theorem nH{b:Rat}(h:b.num<0):b.num.sign*b.den=-(b.den:Int)/\(b.num.natAbs:Int)=-b.num:=by
 rw[Int.sign_eq_neg_one_of_neg h];exact⟨ae,ae⟩
set_option maxHeartbeats 1000000 in
theorem lY(a b:Rat){k m:Nat}(w:World)(g:Gd w)(qa:QB k a)(qb:QB m b)(hk:k<=3000)(hm:m<=3000)(hm1:1<=m)(hb0:b≠0):Calls prog 230 #[.string (qs a),.string (qs b)] w (aR w (.tuple #[.string (qs (a / b)),.int .i64 0])):=by
 have h1:=a6 hb0;have hp:=sn b;have hp':(0:Int)<(qs b).size:=ae;have QA:=aj qa;have QB':=aj qb;have HG:=aj g;have HI:=aj (Cc b hb0);have HD:=aj (Rat.div_def a b);have QI:=aj (qb.inv hm1);have IN:Hid (IB m b.num/\IB m (b.den:Int)):=aj ⟨qb.cB,qb.bY⟩;by_cases hn:b.num<0
 ·have h2:=(iP b hp).2 hn;obtain⟨p1,p2⟩:=nH hn;have P1:=aj p1;have P2:=aj p2;clear hb0 hn qa qb g p1 p2;go_enter func230,ntmps230;go_wp2_with (first
   | (go_at_call 86;refine cto (cY b _ QB'.out ae) fun w1 e1=>?_)
   | (go_at_call 248;((with_reducible refine(Bp b.num _ (IN.out.1.len ae)).mono ?_);rw[← P2.out];rintro e w' ⟨rfl,rfl⟩))
   | (go_at_call 248;refine(Bp (b.den:Int) _ (IN.out.2.len ae)).mono ?_;rw[← P1.out];rintro e w' ⟨rfl,rfl⟩)
   | (go_at_call 249;refine(pL _ _ _ (by rw[P1.out];exact IN.out.2.neg) (by rw[P2.out];exact IN.out.1.neg) ae ae).mono ?_;rw[HI.o];rintro e w' ⟨rfl,rfl⟩)
   | (go_at_call 116;refine cto (gK a b⁻¹ _ (HG.o.ext e1) QA.out QI.out hk hm) fun w2 e2=>?_))
  go_ret2;exact⟨by rw[HD.o];rfl,e1.trans e2⟩
 ·have h2:¬ ((qs b)[0].toNat:Int)=45:=fun e=>hn ((iP b hp).1 e)
  obtain⟨p1,p2⟩:=nG (b:=b) (by have:=pz hb0;omega);have P1:=aj p1;have P2:=aj p2;clear hb0 hn qa qb g p1 p2;go_enter func230,ntmps230;go_wp2_with (first
   | (go_at_call 86;refine(cY b _ QB'.out ae).mono ?_;rw[← P2.out,← P1.out];rintro e w1 ⟨rfl,e1⟩)
   | (go_at_call 249;refine(pL _ _ _ (by rw[P1.out];exact IN.out.2) (by rw[P2.out];exact IN.out.1) ae ae).mono ?_;rw[HI.o];rintro e w' ⟨rfl,rfl⟩)
   | (go_at_call 116;refine cto (gK a b⁻¹ _ (HG.o.ext e1) QA.out QI.out hk hm) fun w2 e2=>?_))
  go_ret2;exact⟨by rw[HD.o];rfl,e1.trans e2⟩
def fl(a b:Rat):Int:=if a<b then -1 else if a=b then 0 else 1
theorem nZ(a b:Rat):dZ (a.num*b.den) (b.num*a.den)=fl a b:=by
 unfold dZ fl
 congr 1
 ·exact propext (Rat.lt_iff a b).symm
 ·congr 1
  exact propext Rat.eq_iff_mul_eq_mul.symm
theorem nY(a:Rat):fl a a=0:=by unfold fl;rw[if_neg Rat.lt_irrefl,if_pos rfl]
theorem xW{a b:Rat}(h:a=b):((qs a).toList == (qs b).toList)=true:=by subst h;exact beq_self_eq_true _
theorem sq{a b:Rat}(h:a≠b):((qs a).toList == (qs b).toList)=false:=by
 rw[fC,fC];simpa using fun e=>h (pr e)
set_option maxHeartbeats 1000000 in
theorem lZ(a b:Rat)(w:World)(ha:jB a)(hb:jB b)(hne:a≠b):Calls prog 27 #[.string (qs a),.string (qs b)] w (aR w (.int .i64 (fl a b))):=by
 have h1:=sq hne;obtain⟨p1,p2⟩:=gL (a:=a.num) (b:=(b.den:Int)) ha.1 (by rw[Int.natAbs_natCast];exact hb.2);obtain⟨p3,p4⟩:=gL (a:=b.num) (b:=(a.den:Int)) hb.1 (by rw[Int.natAbs_natCast];exact ha.2);have HA:=aj ha;have HB:=aj hb;have hc:=nZ a b;rcases Int.lt_trichotomy (a.num*b.den) (b.num*a.den) with h|h|h
 ·rw[jW h] at hc;have HC:=aj hc;clear hc ha hb hne;go_enter func27,ntmps27;go_wp2_with (first
   | (go_at_call 85;((with_reducible refine(bU a _ HA.o).mono ?_);rintro e w' ⟨rfl,rfl⟩))
   | (go_at_call 85;refine(bU b _ HB.o).mono ?_;rintro e w' ⟨rfl,rfl⟩))
  go_ret;exact⟨by rw[← HC.o];rfl,Ext.refl _⟩
 ·exact absurd (Rat.eq_iff_mul_eq_mul.2 h) hne
 ·rw[jX h] at hc;have HC:=aj hc;have h':¬ a.num*b.den<b.num*a.den:=ae;clear hc ha hb hne;go_enter func27,ntmps27;go_wp2_with (first
   | (go_at_call 85;((with_reducible refine(bU a _ HA.o).mono ?_);rintro e w' ⟨rfl,rfl⟩))
   | (go_at_call 85;refine(bU b _ HB.o).mono ?_;rintro e w' ⟨rfl,rfl⟩))
  go_ret;exact⟨by rw[← HC.o];rfl,Ext.refl _⟩
theorem ph(a b:Rat){k m:Nat}(w:World)(g:Gd w)(qa:QB k a)(qb:QB m b)(hk:k<=3000)(hm:m<=3000)(h:¬ (jB a/\jB b))(hne:a≠b):Calls prog 27 #[.string (qs a),.string (qs b)] w (aR w (.int .i64 (fl a b))):=by
 have h1:=sq hne;have QA:=aj qa;have QB':=aj qb;have HG:=aj g;have HC:=aj (nZ a b);clear qa qb g hne;by_cases hsa:jB a
 ·have hsb:¬ jB b:=fun e=>h ⟨hsa,e⟩
  have HA:=aj hsa;have HB:=aj hsb;clear h hsa hsb;go_enter func27,ntmps27;go_wp2_with (first
   | (go_at_call 85;((with_reducible refine(bU a _ HA.o).mono ?_);rintro e w' ⟨rfl,rfl⟩))
   | (go_at_call 85;refine(fB b _ QB'.out ae HB.o).mono ?_;rintro e w' ⟨rfl,rfl⟩)
   | (go_at_call 86;((with_reducible refine(cY a w QA.out ae).mono ?_);rintro e w1 ⟨rfl,e1⟩))
   | (go_at_call 86;refine cto (cY b w1 QB'.out ae) fun w2 e2=>?_;have e12:=Ext.trans e1 e2)
   | (go_at_call 88;((with_reducible refine(gd a.num b.den w2 (HG.o.ext e12) QA.out.cB QB'.out.bY ae ae).mono ?_);rintro e w3 ⟨rfl,e3⟩;have e13:=e12.trans e3))
   | (go_at_call 88;((with_reducible refine(gd b.num a.den w3 (HG.o.ext e13) QB'.out.cB QA.out.bY ae ae).mono ?_);rintro e w4 ⟨rfl,e4⟩;have e14:=e13.trans e4))
   | (go_at_call 87;refine(ky _ _ _).mono ?_;rw[HC.o];rintro e w' ⟨rfl,rfl⟩))
  go_ret;exact⟨rfl,e14⟩
 ·have HA:=aj hsa;clear h hsa;go_enter func27,ntmps27;go_wp2_with (first
   | (go_at_call 85;refine(fB a _ QA.out ae HA.o).mono ?_;rintro e w' ⟨rfl,rfl⟩)
   | (go_at_call 86;((with_reducible refine(cY a w QA.out ae).mono ?_);rintro e w1 ⟨rfl,e1⟩))
   | (go_at_call 86;refine cto (cY b w1 QB'.out ae) fun w2 e2=>?_;have e12:=Ext.trans e1 e2)
   | (go_at_call 88;((with_reducible refine(gd a.num b.den w2 (HG.o.ext e12) QA.out.cB QB'.out.bY ae ae).mono ?_);rintro e w3 ⟨rfl,e3⟩;have e13:=e12.trans e3))
   | (go_at_call 88;((with_reducible refine(gd b.num a.den w3 (HG.o.ext e13) QB'.out.cB QA.out.bY ae ae).mono ?_);rintro e w4 ⟨rfl,e4⟩;have e14:=e13.trans e4))
   | (go_at_call 87;refine(ky _ _ _).mono ?_;rw[HC.o];rintro e w' ⟨rfl,rfl⟩))
  go_ret;exact⟨rfl,e14⟩
theorem l5(a b:Rat){k m:Nat}(w:World)(g:Gd w)(qa:QB k a)(qb:QB m b)(hk:k<=3000)(hm:m<=3000):Calls prog 27 #[.string (qs a),.string (qs b)] w (aR w (.int .i64 (fl a b))):=by
 by_cases hne:a=b
 ·have h1:=xW hne;have HC:Hid (fl a b=0):=aj (by subst hne;exact nY _);clear hne qa qb;go_enter func27,ntmps27;go_wp2;go_ret;exact⟨by rw[HC.o];rfl,Ext.refl _⟩
 ·by_cases h:jB a/\jB b
  ·exact lZ a b w h.1 h.2 hne
  ·exact ph a b w g qa qb hk hm h hne
theorem As(a b:Rat):-1<=fl a b/\fl a b<=1:=by unfold fl;split <;> (try split) <;> omega
theorem Ar{a b:Rat}:fl a b<0 ↔ a<b:=by
 unfold fl;split
 ·rename_i h;simp[h]
 ·rename_i h;split <;> simp[h]
def DA(a b:Rat):Rat:=if b<a then b else a
def DB(a b:Rat):Rat:=if a<b then b else a
theorem zS(n:Int)(h0:-9223372036854775808<=n)(h1:n<=9223372036854775807)(w:World)(g:Gd w):Calls prog 156 #[.int .i64 n] w (aR w (.string (qs (n:Rat)))):=by
 rw[po];have H:=aj (And.intro h0 h1);clear h0 h1;go_enter func156,ntmps156;go_wp2_with (go_at_call 168;refine(yj n H.o.1 H.o.2 _ g).mono ?_;rintro e w' ⟨rfl,e1⟩);go_ret;exact⟨rfl,e1⟩
def jx(l:List UInt8):Prop:=∃ q:Rat,l=ql q/\(Lib.decDigits q.num.natAbs).length<=200/\(Lib.decDigits q.den).length<=200
theorem kE{l:List UInt8}(h:(47:UInt8) ∉ l):jx l ↔ dX l:=by
 constructor
 ·rintro⟨q,rfl,h1,h2⟩;by_cases hd:q.den=1
  ·exact⟨q.num,dt hd,h1⟩
  ·rw[cu hd] at h;simp at h
 ·rintro⟨n,rfl,h1⟩;exact⟨(n:Rat),(jl n).symm,by simpa using h1,by rw[Rat.den_intCast,lD];decide⟩
theorem Cn(a:Int)(b:Nat)(hb:b≠0)(hg:Int.gcd a b=1):(mkRat a b).num=a/\(mkRat a b).den=b:=by
 have:=gg a b 1 hb hg;simpa using this
theorem ve {l x y:List UInt8} (hl:l=x ++ 47 :: y) (hx:(47:UInt8) ∉ x) :
    jx l ↔ ∃ (a:Int) (b:Nat),x=zl a/\y=zl (b:Int)/\(Lib.decDigits a.natAbs).length<=200/\(Lib.decDigits b).length<=200/\1<b/\a≠0/\Int.gcd a b=1:=by
 subst hl;constructor
 ·rintro⟨q,e,h1,h2⟩;by_cases hd:q.den=1
  ·rw[dt hd] at e;exact absurd (e▸cA q.num) (by simp)
  ·rw[cu hd] at e;obtain⟨e1,e2⟩:=iq hx (cA _) e;refine⟨q.num,q.den,e1,by rw[dr];exact e2,h1,h2,?_,?_,?_⟩
   ·have:=q.den_nz;omega
   ·intro h0;have:=Rat.num_eq_zero.1 h0;subst this;exact hd rfl
   ·exact q.reduced
 ·rintro⟨a,b,rfl,rfl,h1,h2,h3,h4,h5⟩;obtain⟨e1,e2⟩:=Cn a b ae h5;exact⟨mkRat a b,by rw[cu ae,e1,e2,dr],by rw[e1];exact h1,by rw[e2];exact h2⟩
theorem IB.yi{n:Int}(h:(Lib.decDigits n.natAbs).length<=200):IB 200 n:=⟨bN h⟩
set_option maxHeartbeats 1000000 in
theorem me (s x y:ByteArray) (sl:Bool) (w:World) (hc:∀ w,Calls prog 163 #[.string s,.string ⟨#[47]⟩] w (aR w (.tuple #[.string x,.string y,.bool sl]))) (hx:¬ dX x.data.toList) :
    Calls prog 102 #[.string s] w (aR w (.int .i64 2)):=by
 have HX:=aj hx;clear hx;go_enter func102,ntmps102;go_wp2_with (first
  | (go_at_call 163;refine cto (hc _) fun w1 e1=>?_)
  | (go_at_call 181;refine(cI x _ 2 ⟨fun h=>absurd h HX.o,fun _=>rfl⟩).mono ?_;rintro e w' ⟨rfl,rfl⟩))
 go_ret;exact⟨rfl,e1⟩
set_option maxHeartbeats 1000000 in
theorem pj (s x y:ByteArray) (w:World) (hc:∀ w,Calls prog 163 #[.string s,.string ⟨#[47]⟩] w (aR w (.tuple #[.string x,.string y,.bool false]))) (hx:dX x.data.toList) :
    Calls prog 102 #[.string s] w (aR w (.int .i64 0)):=by
 have HX:=aj hx;clear hx;go_enter func102,ntmps102;go_wp2_with (first
  | (go_at_call 163;refine cto (hc _) fun w1 e1=>?_)
  | (go_at_call 181;refine(cI x _ 0 ⟨fun _=>rfl,fun h=>absurd HX.o h⟩).mono ?_;rintro e w' ⟨rfl,rfl⟩))
 go_ret;exact⟨rfl,e1⟩
set_option maxHeartbeats 1000000 in
theorem sj (s x y:ByteArray) (w:World) (hc:∀ w,Calls prog 163 #[.string s,.string ⟨#[47]⟩] w (aR w (.tuple #[.string x,.string y,.bool true]))) (hx:dX x.data.toList) (hy:¬ dX y.data.toList) :
    Calls prog 102 #[.string s] w (aR w (.int .i64 2)):=by
 have HX:=aj hx;have HY:=aj hy;clear hx hy;go_enter func102,ntmps102;go_wp2_with (first
  | (go_at_call 163;refine cto (hc _) fun w1 e1=>?_)
  | (go_at_call 181;((with_reducible refine(cI x w1 0 ⟨fun _=>rfl,fun h=>absurd HX.o h⟩).mono ?_);rintro e w' ⟨rfl,rfl⟩))
  | (go_at_call 181;refine(cI y _ 2 ⟨fun h=>absurd h HY.o,fun _=>rfl⟩).mono ?_;rintro e w' ⟨rfl,rfl⟩))
 go_ret;exact⟨rfl,e1⟩
theorem si (s:ByteArray) (a b:Int) (v:Int) (w:World) (g:Gd w) (hc:∀ w,Calls prog 163 #[.string s,.string ⟨#[47]⟩] w (aR w (.tuple #[.string (zs a),.string (zs b),.bool true])))
    (ha:(Lib.decDigits a.natAbs).length<=200) (hb:(Lib.decDigits b.natAbs).length<=200)
    (hv:(1<b/\a≠0/\Int.gcd a b=1->v=0)/\(¬ (1<b/\a≠0/\Int.gcd a b=1)->v=2)) :
    Calls prog 102 #[.string s] w (aR w (.int .i64 v)):=by
 have HA:=aj (IB.yi ha);have HB:=aj (IB.yi hb);have RA:Hid (dX (zs a).data.toList):=aj (by rw[bH];exact qE.2 ha);have RB:Hid (dX (zs b).data.toList):=aj (by rw[bH];exact qE.2 hb);have one:zs 1=⟨#[49]⟩:=rU;have HCC:Hid (∀ w,Calls prog 87 #[.string (zs b),.string ⟨#[49]⟩] w fun e w'=>e = .returned (.int .i64 (dZ b 1))/\w=w'):=aj (fun w=>by have:=ky b 1 w;rw[one] at this;exact this);clear one ha hb;obtain⟨c,hcc⟩:∃ c,c=dZ b 1:=⟨_,rfl⟩
 have HC1:=aj hcc;by_cases h1:1<b
 ·have hc1:¬ c<=0:=by rw[hcc,jX h1];omega
  by_cases h2:a=0
  ·have hv2:=hv.2 (fun h=>h.2.1 h2);have HV:=aj hv2;have z1:=rV h2;clear hv hv2 hcc h1 h2;go_enter func102,ntmps102;go_wp2_with (first
    | (go_at_call 163;refine cto (hc _) fun w1 e1=>?_)
    | (go_at_call 181;((with_reducible refine(cI (zs a) w1 0 ⟨fun _=>rfl,fun h=>absurd RA.out h⟩).mono ?_);rintro e w' ⟨rfl,rfl⟩))
    | (go_at_call 181;refine(cI (zs b) _ 0 ⟨fun _=>rfl,fun h=>absurd RB.out h⟩).mono ?_;rintro e w' ⟨rfl,rfl⟩)
    | (go_at_call 87;refine(HCC.o _).mono ?_;rw[← HC1.o];rintro e w' ⟨rfl,rfl⟩))
   go_ret;exact⟨by rw[HV.o];rfl,e1⟩
  ·have z1:=iK h2;obtain⟨G,hG⟩:∃ G:Nat,G=Int.gcd a b:=⟨_,rfl⟩
   have HG:=aj hG;by_cases h3:(G:Int)=1
   ·have hv2:=hv.1 ⟨h1,h2,ae⟩;have HV:=aj hv2;have z3:=oS h3;have z4:=tw h3;clear hv hv2 hcc h1 h2 h3 hG;go_enter func102,ntmps102;go_wp2_with (first
     | (go_at_call 163;refine cto (hc _) fun w1 e1=>?_)
     | (go_at_call 181;((with_reducible refine(cI (zs a) w1 0 ⟨fun _=>rfl,fun h=>absurd RA.out h⟩).mono ?_);rintro e w' ⟨rfl,rfl⟩))
     | (go_at_call 181;refine(cI (zs b) _ 0 ⟨fun _=>rfl,fun h=>absurd RB.out h⟩).mono ?_;rintro e w' ⟨rfl,rfl⟩)
     | (go_at_call 87;refine(HCC.o _).mono ?_;rw[← HC1.o];rintro e w' ⟨rfl,rfl⟩)
     | (go_at_call 182;refine(uu a b _ (g.ext e1) HA.o HB.o af af).mono ?_;rw[← HG.o];rintro e w2 ⟨rfl,e2⟩))
    go_ret;exact⟨by rw[HV.o];rfl,e1.trans e2⟩
   ·have hv2:=hv.2 (fun h=>h3 (by have:=h.2.2;omega));have HV:=aj hv2;have z3:=kS h3;have z4:=qg h3;clear hv hv2 hcc h1 h2 h3 hG;go_enter func102,ntmps102;go_wp2_with (first
     | (go_at_call 163;refine cto (hc _) fun w1 e1=>?_)
     | (go_at_call 181;((with_reducible refine(cI (zs a) w1 0 ⟨fun _=>rfl,fun h=>absurd RA.out h⟩).mono ?_);rintro e w' ⟨rfl,rfl⟩))
     | (go_at_call 181;refine(cI (zs b) _ 0 ⟨fun _=>rfl,fun h=>absurd RB.out h⟩).mono ?_;rintro e w' ⟨rfl,rfl⟩)
     | (go_at_call 87;refine(HCC.o _).mono ?_;rw[← HC1.o];rintro e w' ⟨rfl,rfl⟩)
     | (go_at_call 182;refine(uu a b _ (g.ext e1) HA.o HB.o af af).mono ?_;rw[← HG.o];rintro e w2 ⟨rfl,e2⟩))
    go_ret;exact⟨by rw[HV.o];rfl,e1.trans e2⟩
 ·have hc1:c<=0:=by
   rw[hcc];by_cases h:b=1
   ·subst h;rw[uo];omega
   ·rw[jW ae];omega
  have hv2:=hv.2 (fun h=>h1 h.1);have HV:=aj hv2;clear hv hv2 hcc h1;go_enter func102,ntmps102;go_wp2_with (first
   | (go_at_call 163;refine cto (hc _) fun w1 e1=>?_)
   | (go_at_call 181;((with_reducible refine(cI (zs a) w1 0 ⟨fun _=>rfl,fun h=>absurd RA.out h⟩).mono ?_);rintro e w' ⟨rfl,rfl⟩))
   | (go_at_call 181;refine(cI (zs b) _ 0 ⟨fun _=>rfl,fun h=>absurd RB.out h⟩).mono ?_;rintro e w' ⟨rfl,rfl⟩)
   | (go_at_call 87;refine(HCC.o _).mono ?_;rw[← HC1.o];rintro e w' ⟨rfl,rfl⟩))
  go_ret;exact⟨by rw[HV.o];rfl,e1⟩
theorem l9 (s:ByteArray) (w:World) (g:Gd w) (v:Int) (hl:s.size<=1000000) (hv:(jx s.data.toList->v=0)/\(¬ jx s.data.toList->v=2)) :
    Calls prog 102 #[.string s] w (aR w (.int .i64 v)):=by
 rcases qz s.data.toList with hn|⟨x,y,hs,hx⟩
 ·have hc:=fun w=>nq s w hn
  by_cases h:dX s.data.toList
  ·rw[hv.1 ((kE hn).2 h)];exact pj s s _ w hc h
  ·rw[hv.2 (fun e=>h ((kE hn).1 e))];exact me s s _ false w hc h
 ·have hc:=fun w=>td s x y w hs hx hl
  have hq:=ve hs hx;by_cases h1:dX x
  ·by_cases h2:dX y
   ·obtain⟨a,rfl,ha⟩:=h1;obtain⟨b,rfl,hb⟩:=h2;refine si s a b v w g hc ha hb ⟨fun⟨k1,k2,k3⟩=>hv.1 (hq.2 ⟨a,b.natAbs,rfl,?_,ha,hb,ae,k2,?_⟩),fun hh=>hv.2 (fun e=>hh ?_)⟩
    ·rw[show((b.natAbs:Nat):Int)=b by omega]
    ·rw[show((b.natAbs:Nat):Int)=b by omega];exact k3
    ·obtain⟨a',b',e1,e2,_,_,k1,k2,k3⟩:=hq.1 e;have:=jf e1;have:=jf e2
     subst_vars
     exact⟨ae,k2,k3⟩
   ·rw[hv.2 (fun e=>by obtain⟨a,b,e1,e2,_,h4,_⟩:=hq.1 e;exact h2 ⟨b,e2,by simpa using h4⟩)];exact sj s ⟨x.toArray⟩ ⟨y.toArray⟩ w hc (by simpa using h1) (by simpa using h2)
  ·rw[hv.2 (fun e=>by obtain⟨a,b,e1,e2,h3,_⟩:=hq.1 e;exact h1 ⟨a,e1,h3⟩)];exact me s ⟨x.toArray⟩ ⟨y.toArray⟩ true w hc (by simpa using h1)
theorem uT (s t:ByteArray) (w:World) (h:0<s.size) (h2:(s[0].toNat:Int)=45) (ht:s.extract 1 s.size=t) :
    Calls prog 149 #[.string s] w (aR w (.tuple #[.bool true,.string t])):=by
 have hp':(0:Int)<s.size:=ae;have hp1:1<=s.size:=h;have HT:=aj ht;clear ht;go_enter func149,ntmps149;go_wp2;go_region
 all_goals
  go_wp2;go_ret2;exact⟨by rw[← HT.o];rfl,(Ext.refl _).drew⟩
theorem uS (s:ByteArray) (w:World) (h:0<s.size) (h2:¬ (s[0].toNat:Int)=45) :
    Calls prog 149 #[.string s] w (aR w (.tuple #[.bool false,.string s])):=by
 have hp':(0:Int)<s.size:=ae;go_enter func149,ntmps149;go_wp2;go_ret2;exact⟨rfl,Ext.refl _⟩
theorem qp (s:ByteArray) (w:World) (h:¬ (0:Int)<s.size) :
    Calls prog 149 #[.string s] w (aR w (.tuple #[.bool false,.string s])):=by
 go_enter func149,ntmps149;go_wp2;go_ret2;exact⟨rfl,Ext.refl _⟩
theorem uU(s:ByteArray)(w:World):Calls prog 149 #[.string s] w (aR w (.tuple #[.bool (Lib.hasPrefix s.data.toList [45]),.string ⟨(Lib.trimPrefix s.data.toList [45]).toArray⟩])):=by
 have hsz:=kg s;rcases lO s.data.toList with⟨t,e,e1,e2⟩|⟨h0,e1,e2⟩
 ·rw[e1,e2];have h:0<s.size:=by rw[hsz,e];simp
  refine uT s _ w h ?_ ?_
  ·rw[aU _ 0 h];simp only[e];rfl
  ·apply bO;rw[ByteArray.data_extract,Array.toList_extract,e,hsz,e];simp
 ·rw[e1,e2,← zu s];by_cases h:0<s.size
  ·refine uS s w h ?_;rw[aU _ 0 h,uq];intro e;cases hl:s.data.toList with
   | nil=>rw[hl] at e;simp at e
   | cons b t=>rw[hl] at e;simp at e;subst e;exact h0 t hl
  ·exact qp s w ae
theorem bu(n:Int)(w:World):Calls prog 149 #[.string (zs n)] w (aR w (.tuple #[.bool (decide (n<0)),.string (zs (n.natAbs:Int))])):=by
 have:=uU (zs n) w;rw[bH,sS,oX] at this;rw[show zs (n.natAbs:Int)=⟨(Lib.decDigits n.natAbs).toArray⟩ by unfold zs;rw[dr]];exact this
theorem y9(n:Int)(w:World):Calls prog 218 #[.string (zs n)] w (aR w (.string (zs (n.natAbs:Int)))):=by
 go_enter func218,ntmps218;go_wp2_with (go_at_call 149;refine cto (bu n _) fun w1 e1=>?_);go_ret;exact⟨rfl,e1⟩
theorem mV(n:Int)(h0:-9223372036854775808<=n)(h1:n<=9223372036854775807)(w:World)(g:Gd w):Calls prog 119 #[.int .i64 n] w (aR w (.string (zs n))):=by
 have H:=aj (And.intro h0 h1);clear h0 h1;go_enter func119,ntmps119;go_wp2_with (go_at_call 193;refine(fS n H.o.1 H.o.2 _ g).mono ?_;rintro e w' ⟨rfl,e1⟩);go_ret;exact⟨rfl,e1⟩
theorem Ap(d:Int)(h0:0<=d)(h9:d<=9):(-9223372036854775808+d).tdiv 10<=-922337203685477579:=by
 rw[show(-9223372036854775808+d)=-(9223372036854775808-d) by omega,Int.neg_tdiv,Int.tdiv_eq_ediv_of_nonneg ae];omega
theorem xU(d:Int)(h0:0<=d)(h9:d<=9):-9223372036854775808<=(-9223372036854775808+d).tdiv 10:=by
 rw[show(-9223372036854775808+d)=-(9223372036854775808-d) by omega,Int.neg_tdiv,Int.tdiv_eq_ediv_of_nonneg ae];omega
theorem y3(n:Int)(w:World)(hl:n.natAbs<1000000000000000000):Calls prog 150 #[.string (zs n)] w (aR w (.tuple #[.int .i64 n,.bool true])):=by
 obtain⟨B,hB⟩:∃ B,B=decide (n<0):=⟨_,rfl⟩
 have HB:=aj hB;obtain⟨s,hs⟩:∃ s,s=zs (n.natAbs:Int):=⟨_,rfl⟩
 have HS:=aj hs;have hsl:s.data.toList=[] ++ Lib.decDigits n.natAbs ++ []:=by rw[hs,bH,dr];simp
 have hd:=iG hsl (a7 _);have hsv:=jF hsl;have hsz:s.size=(Lib.decDigits n.natAbs).length:=by rw[hs,bj]
 simp only[List.length_nil,Nat.zero_add] at hd hsv;rw[← hsz] at hd hsv;rw[cG] at hsv;have hs18:s.size<=18:=by rw[hsz];exact bB (k:=18) af hl
 have HD:=aj hd;have HV:=aj hsv;clear hs hsl hd hsv hsz hB;go_enter func150,ntmps150;go_wp2_with (go_at_call 149;refine(bu n _).mono ?_;rw[← HB.o,← HS.o];rintro e w1 ⟨rfl,e1⟩);go_loop [6,7] (fun m i=>∃ (k N:Nat),k<=s.size/\i = .int .i64 k/\m = .int .i64 (-(N:Int))/\N<1000000000000000000/\Hid (N=ep s 0 k)) (fun _ i=>s.size-(intOf i).toNat)
 case atStart=>exact⟨0,0,Nat.zero_le _,rfl,rfl,ae,aj (ck s 0).symm⟩
 case round =>
  obtain⟨k,N,hk,rfl,rfl,hN,HN⟩:=hrel;by_cases hlt:k<s.size
  ·obtain⟨_,d1,d2⟩:=HD.o k (Nat.zero_le _) hlt;have hst:=eh s 0 k (Nat.zero_le _) hlt;have hb:N<100000000000000000:=by
    rw[HN.o];have h1:=kT s 0 s.size k HD.o (Nat.zero_le _) hk;have h2:10 ^ (k-0)<=10 ^ 17:=Nat.pow_le_pow_right af ae;exact Nat.lt_of_lt_of_le h1 h2
   have HST:=aj hst;have q1:=Ap ((s[k].toNat:Int)-48) ae ae;have q2:=xU ((s[k].toNat:Int)-48) ae ae;obtain⟨q,hq⟩:∃ q,q=(-9223372036854775808+((s[k].toNat:Int)-48)).tdiv 10:=⟨_,rfl⟩
   clear hst;go_wp2;go_round
   case rel=>exact⟨k+1,10*N+(s[k].toNat-48),ae,by go_num,by simp only[Value.int.injEq,true_and];omega,ae,aj (by rw[HST.o,HN.o])⟩
   case measure=>simp[intOf];omega
  ·obtain rfl:s.size=k:=ae;have hN':N=n.natAbs:=by rw[HN.o,HV.o]
   have HN':=aj hN';clear hN';cases B
   ·have hn:¬ n<0:=of_decide_eq_false HB.o.symm;have E:Hid ((N:Int)=n):=aj (by have:=HN'.o;omega);clear hn;go_wp2;go_ret2;exact⟨by rw[← E.out];simp,e1⟩
   ·have hn:n<0:=of_decide_eq_true HB.o.symm;have E:Hid (-(N:Int)=n):=aj (by have:=HN'.o;omega);clear hn;go_wp2;go_ret2;exact⟨by rw[← E.out];rfl,e1⟩
theorem cU(n:Int)(w:World)(h:(Lib.decDigits n.natAbs).length<=17):Calls prog 219 #[.string (zs n)] w (aR w (.tuple #[.int .i64 n,.bool true])):=by
 have hs:¬ (17:Int)<(zs (n.natAbs:Int)).size:=by rw[bj];omega
 have H:=aj (bN h);clear h;go_enter func219,ntmps219;go_wp2_with (first
  | (go_at_call 149;refine cto (bu n _) fun w1 e1=>?_)
  | (go_at_call 150;refine cto (y3 n _ (Nat.lt_of_lt_of_le H.o af)) fun w2 e2=>?_))
 go_ret2;exact⟨rfl,e1.trans e2⟩
theorem cJ(n:Int)(w:World)(h:¬ (Lib.decDigits n.natAbs).length<=17):Calls prog 219 #[.string (zs n)] w (aR w (.tuple #[.int .i64 0,.bool false])):=by
 have hs:(17:Int)<(zs (n.natAbs:Int)).size:=by rw[bj];omega
 go_enter func219,ntmps219;go_wp2_with (first
  | (go_at_call 149;refine cto (bu n _) fun w1 e1=>?_))
 go_ret2;exact⟨rfl,e1⟩
def cK(w:World)(v:Value)(n:Nat):Prop:=∃ l,Holds .i64 w v l/\Canon 10000 l/\mv 10000 l=n
theorem cK.ext{w w':World}{v:Value}{n:Nat}(h:cK w v n)(e:Ext w w'):cK w' v n :=
 let ⟨l,h1,h2,h3⟩:=h;⟨l,h1.ext e,h2,h3⟩
theorem cK.slice{w:World}{v:Value}{n:Nat}(h:cK w v n):∃ ad len cap,v = .slice ad len cap:=by
 obtain⟨l,⟨ad,cap,b,off,hv,_⟩,_⟩:=h;exact⟨ad,_,cap,hv⟩
theorem cK.zero(w:World):cK w (.slice none 0 0) 0:=⟨[],Holds.nil _ _,Canon.nil _,rfl⟩
theorem cK.cF{w:World}{ad:Option Addr}{n c N:Nat}(h:cK w (.slice ad n c) N):n=0 ↔ N=0:=by
 obtain⟨l,⟨ad',cap,b,off,hv,_⟩,hc,hm⟩:=h;simp only[Value.slice.injEq] at hv;rw[hv.2.1];constructor
 ·intro e;have:l=[]:=List.length_eq_zero_iff.1 e;subst this;exact hm.symm
 ·intro e;rw[hc.eN af (by rw[hm,e])];rfl
def wg:Nat:=5000
structure gu(n:Nat):Prop where
 out:n<10000 ^ wg
theorem gu.len{n:Nat}{l:List Nat}(h:gu n)(c:Canon 10000 l)(e:mv 10000 l=n):l.length<=5000 :=
 fL (k:=wg) af c (by rw[e];exact h.out)
theorem gu.mono{a b:Nat}(h:gu a)(hb:b<=a):gu b:=⟨Nat.lt_of_le_of_lt hb h.out⟩
theorem IB.Aj{k:Nat}{a:Int}(h:IB k a)(hk:k<=18000):gu a.natAbs :=
 ⟨Nat.lt_of_lt_of_le h.out (by rw[show(10000:Nat)=10 ^ 4 by decide,← Nat.pow_mul];exact Nat.pow_le_pow_right af (Nat.le_trans hk af))⟩
theorem lz:(prog.info? 3).map (fun i=>(i.zero,i.size,i.bytes))=some (some (.int .i64 0),1,8):=ag
theorem k5(w:World):(sizeOf 3).run prog w = .ok 1 w:=ag
def rO(w:World)(l:List Nat)(v:Value)(e:Ending)(w':World):Prop :=
 ∃ v',e = .returned v'/\w=w'/\cK w v' (mv 10000 l)/\∃ ad n k cap,v = .slice ad n cap/\v' = .slice ad k cap
def zG(w:World)(b:Bool)(e:Ending)(w':World):Prop:=e = .returned (.bool b)/\Ext w w'
theorem oJ {w:World} {l:List Nat} {b off cap n k:Nat} (hn:n=l.length) (hk:k<=n) (hcap:n<=cap) (hmax:cap<=9223372036854775807) (hb:b<w.heap.size)
    (hc:∀ i,i<l.length->w.cell? ⟨b,off+i,none⟩=some (.int .i64 ((l.getD i 0:Nat):Int))) (hl:aC 10000 l) (hz:∀ i (h:i<l.length),k<=i->l[i]=0)
    (hlast:k=0∨l[k-1]?.getD 0≠0):cK w (.slice (some ⟨b,off,none⟩) k cap) (mv 10000 l):=by
 have hlen:(l.take k).length=k:=by rw[List.length_take];omega
 have ht:=oY (B:=10000) (l:=l) (k:=k) ae hl hz (by
  rcases hlast with h|h
  ·exact Or.inl h
  ·by_cases h0:k=0
   ·exact Or.inl h0
   ·exact Or.inr ⟨ae,by simpa[show k-1<l.length by omega] using h⟩)
 refine⟨l.take k,Holds.some hlen ae hmax hb (fun i hi=>?_),ht.1,ht.2⟩;rw[hc i (by rw[hlen] at hi;omega)];rw[hlen] at hi;simp[hi]
set_option maxHeartbeats 400000 in
theorem oI (l:List Nat) (v:Value) (w:World) (h:Holds .i64 w v l) (hl:aC 10000 l) :
    Calls prog 222 #[v] w (rO w l v):=by
 by_cases hz:0<l.length
 ·obtain⟨b,off,cap,rfl,hcap,hmax,hb,hc⟩:=h.cells hz;obtain⟨n,hn⟩:∃ n,n=l.length:=⟨_,rfl⟩
  have hcap':n<=cap:=ae;have hn':n<=l.length:=ae;rw[← hn];have HN:=aj hn;clear hn h hz;go_enter func222,ntmps222;go_wp2;go_loop [0] (fun v=>∃ k:Nat,k<=n/\v = .slice (some ⟨b,off,none⟩) k cap/\∀ i (h:i<l.length),k<=i->l[i]=0)
   (fun v=>match v with | .slice _ k _=>k|_=>0)
  case atStart=>exact⟨n,Nat.le_refl _,rfl,fun i h1 h2=>by have:=HN.o;omega⟩
  case round =>
   obtain⟨k,hk,rfl,hz⟩:=hrel;by_cases h0:0<k
   ·have hcell:w.cell? ⟨b,off+(k-1),none⟩=some (.int .i64 ((l.getD (k-1) 0:Nat):Int)):=hc _ ae;go_wp2
    ·have h1:(((l[k-1]?.getD 0:Nat):Int) == 0)=true:=by assumption
     go_round
     case rel=>exact⟨k-1,ae,rfl,fK h0 hz (by simpa using h1)⟩
     case measure=>show k-1<k;omega
    ·have h1:(((l[k-1]?.getD 0:Nat):Int) == 0)=false:=by assumption
     go_ret;exact⟨_,rfl,rfl,oJ HN.o hk hcap' hmax hb hc hl hz (Or.inr (by simpa using h1)),_,_,_,_,rfl,rfl⟩
   ·go_wp2;go_ret;exact⟨_,rfl,rfl,oJ HN.o hk hcap' hmax hb hc hl hz (Or.inl ae),_,_,_,_,rfl,rfl⟩
 ·obtain rfl:l=[]:=List.length_eq_zero_iff.1 ae;obtain⟨ad,cap,b,off,rfl,_,hmax,_,_⟩:=h;simp only[List.length_nil];go_enter func222,ntmps222;go_wp2;go_loop [0] (fun v=>v = .slice ad 0 cap) (fun _=>0)
  case atStart=>rfl
  case round =>
   subst hrel;go_wp2;go_ret;exact⟨_,rfl,rfl,⟨[],Holds.empty _ _ _ _ hmax,Canon.nil _,rfl⟩,_,_,_,_,rfl,rfl⟩
theorem oh {l m:List Nat} {k n:Nat} (hl:l.length=n) (hm:m.length=n) (hk:k<n) (hd:l.drop (k+1)=m.drop (k+1)) (bl:aC 10000 l)
    (h:l[k]?.getD 0<m[k]?.getD 0):mv 10000 l<mv 10000 m:=by
 have h1:k<l.length:=ae;have h2:k<m.length:=ae;exact gR bl ae h1 hd (by simpa[h1,h2] using h)
theorem j3{a b:Bool}(h:a=b):Ending.returned (.bool a) = .returned (.bool b):=by rw[h]
theorem yp {l m:List Nat} {k n:Nat} (hl:l.length=n) (hm:m.length=n) (hk:k<n) (hd:l.drop (k+1)=m.drop (k+1)) (bl:aC 10000 l) (bm:aC 10000 m)
    (h:l[k]?.getD 0≠m[k]?.getD 0):decide (l[k]?.getD 0<m[k]?.getD 0)=decide (mv 10000 l<mv 10000 m):=by
 by_cases h1:l[k]?.getD 0<m[k]?.getD 0
 ·rw[decide_eq_true h1,decide_eq_true (oh hl hm hk hd bl h1)]
 ·have:=oh hm hl hk hd.symm bm ae;rw[decide_eq_false h1,decide_eq_false ae]
set_option maxHeartbeats 1000000 in
theorem pG (a b:Nat) (va vb:Value) (w:World) (ha:cK w va a) (hb:cK w vb b) :
    Calls prog 260 #[va,vb] w (zG w (decide (a<b))):=by
 obtain⟨l,hla,cl,rfl⟩:=ha;obtain⟨m,hlb,cm,rfl⟩:=hb;obtain⟨n,hn⟩:∃ n,n=l.length:=⟨_,rfl⟩
 obtain⟨n',hn'⟩:∃ n',n'=m.length:=⟨_,rfl⟩
 rcases Nat.lt_trichotomy n n' with hlt|heq|hgt
 ·obtain⟨ad,ca,_,_,rfl,h1,h2,_,_⟩:=hla;obtain⟨bd,cb,_,_,rfl,h3,h4,_,_⟩:=hlb;rw[← hn] at h1 ⊢;rw[← hn'] at h3 ⊢;have hr:decide (mv 10000 l<mv 10000 m)=true:=decide_eq_true (cl.eB af cm ae);rw[hr];clear hn hn' hr;go_enter func260,ntmps260;go_wp2;go_ret
  first|exact⟨rfl,Ext.refl _⟩|exact⟨j3 (decide_eq_true ae),Ext.refl _⟩
 ·subst heq;by_cases h0:0<n
  ·obtain⟨b1,o1,ca,rfl,h1,h2,hb1,hc1⟩:=hla.cells ae;obtain⟨b2,o2,cb,rfl,h3,h4,hb2,hc2⟩:=hlb.cells ae;rw[← hn] at h1 hc1 ⊢;rw[← hn'] at h3 hc2 ⊢;have HN:=aj hn;have HN':=aj hn';clear hn hn' hla hlb;go_enter func260,ntmps260;go_wp2;go_loopw [5] (fun i wr=>∃ k:Nat,k<=n/\i = .int .i64 ((k:Int)-1)/\l.drop k=m.drop k/\Ext w wr) (fun i _=>(intOf i+1).toNat)
   case atStart=>exact⟨n,Nat.le_refl _,rfl,by rw[List.drop_of_length_le (by have:=HN.o;omega),List.drop_of_length_le (by have:=HN'.o;omega)],Ext.refl _⟩
   case round =>
    obtain⟨k,hk,rfl,hd,hx⟩:=hrel;by_cases hk0:0<k
    ·obtain⟨j,rfl⟩:∃ j,k=j+1:=⟨k-1,ae⟩
     have ej:(((j+1:Nat):Int)-1)=(j:Int):=ae;rw[ej];clear ej;have g1:wr.cell? ⟨b1,o1+j,none⟩=some (.int .i64 ((l.getD j 0:Nat):Int)):=(hx.cell hb1).trans (hc1 j ae);have g2:wr.cell? ⟨b2,o2+j,none⟩=some (.int .i64 ((m.getD j 0:Nat):Int)):=(hx.cell hb2).trans (hc2 j ae);have HD:=aj hd;clear hd;go_wp2;go_quiet (fail);go_wp2
     ·have hne:(((l[j]?.getD 0:Nat):Int) != ((m[j]?.getD 0:Nat):Int))=true:=by assumption
      go_quiet (fail);go_wp2;have h2:=yt hne;go_ret;exact⟨j3 (yp HN.o.symm HN'.o.symm ae HD.o cl.lt cm.lt h2),(hx.drewN _).drewN _⟩
     ·have hne:(((l[j]?.getD 0:Nat):Int) != ((m[j]?.getD 0:Nat):Int))=false:=by assumption
      go_roundw
      case rel=>exact⟨j,ae,rfl,kx HN.o.symm HN'.o.symm ae HD.o (zb hne),hx.drewN _⟩
      case measure=>simp[intOf]
    ·obtain rfl:k=0:=ae;go_wp2;go_ret;refine⟨j3 ?_,hx⟩;rw[show l=m from by simpa using hd];simp
  ·obtain⟨ad,ca,_,_,rfl,h1,h2,_,_⟩:=hla;obtain⟨bd,cb,_,_,rfl,h3,h4,_,_⟩:=hlb;obtain rfl:l=[]:=List.length_eq_zero_iff.1 ae;obtain rfl:m=[]:=List.length_eq_zero_iff.1 ae;simp only[List.length_nil];clear hn hn';go_enter func260,ntmps260;go_wp2;refine wp_loop_rounds 1 ?_;rw[rounds_succ];go_wp2;go_ret;exact⟨rfl,Ext.refl _⟩
 ·obtain⟨ad,ca,_,_,rfl,h1,h2,_,_⟩:=hla;obtain⟨bd,cb,_,_,rfl,h3,h4,_,_⟩:=hlb;rw[← hn] at h1 ⊢;rw[← hn'] at h3 ⊢;have hr:decide (mv 10000 l<mv 10000 m)=false:=decide_eq_false (by have:=cm.eB af cl ae;omega);rw[hr];clear hn hn' hr;go_enter func260,ntmps260;go_wp2;go_ret
  first|exact⟨rfl,Ext.refl _⟩|exact⟨j3 (decide_eq_false ae),Ext.refl _⟩
theorem r4(s:ByteArray)(lo e:Nat)(h:lo<=e)(he:e<=s.size):ep s 0 e=ep s 0 lo*10 ^ (e-lo)+ep s lo e:=by
 unfold ep;simp only[List.drop_zero,Nat.sub_zero];have hl:s.data.toList.length=s.size:=(kg s).symm;have e1:s.data.toList.take e=s.data.toList.take lo ++ (s.data.toList.drop lo).take (e-lo):=by
  rw[← List.take_append_drop lo (s.data.toList.take e),List.take_take,Nat.min_eq_left h,List.drop_take]
 rw[e1,bS];simp only[List.length_take,List.length_drop,hl];rw[Nat.min_eq_left ae]
structure iZ(s:ByteArray)(V e:Nat)(P:List Nat):Prop where
 le:e<=s.size
 len:0<e->4*P.length+e=s.size
 room:4*P.length<=s.size+3
 lt:aC 10000 P
 val:mv 10000 P+10000 ^ P.length*ep s 0 e=V
theorem iZ.step{s:ByteArray}{V e lo:Nat}{P:List Nat}(h:iZ s V e P)(h0:0<e)(hlo:lo=e-4)(hd:tq s 0 s.size):iZ s V lo (P ++ [ep s lo e]):=by
 have hl:=h.len h0;have hle:=h.le;refine⟨ae,?_,?_,?_,?_⟩
 ·intro h1;simp;omega
 ·simp;omega
 ·intro x hx;rcases List.mem_append.1 hx with hx|hx
  ·exact h.lt x hx
  ·simp only[List.mem_singleton] at hx;subst hx;have h1:=kT s lo s.size e (fun i a b=>hd i (Nat.zero_le _) b) ae h.le;have h2:10 ^ (e-lo)<=10 ^ 4:=Nat.pow_le_pow_right af ae;exact Nat.lt_of_lt_of_le h1 h2
 ·rw[eJ,← h.val,r4 s lo e ae h.le];by_cases h4:4<=e
  ·rw[show e-lo=4 by omega,show(10:Nat) ^ 4=10000 by decide,List.length_append,List.length_singleton,Nat.pow_succ];generalize 10000 ^ P.length=p;generalize ep s 0 lo=x;generalize ep s lo e=y;rw[Nat.mul_add,Nat.mul_assoc p,Nat.mul_comm x];omega
  ·obtain rfl:lo=0:=ae;rw[ck];simp
def zD(w:World)(n:Nat)(e:Ending)(w':World):Prop:=∃ v,e = .returned v/\Ext w w'/\cK w' v n
theorem jo(w:World)(c:Int)(T:TypeId):∀ j u,[Value.int .i64 c][j]?=some u->(w.alloc (.cells #[.int .i64 c] T)).cell? ((⟨w.heap.size,0,none⟩:Addr).add j)=some u:=by
 intro j u hu
 match j,hu with
 | 0,hu=>simp at hu;subst hu;rw[Addr.add_lit];exact(ax.new w #[.int .i64 c] T).cell 0 rfl
theorem mu{w:World}{B e n:Nat}{v:Value}{xs:List Value}(h:w.ownsRow B e 1 v n xs):∃ ad m c,v = .slice ad m c:=by
 rcases h.2 with⟨rfl,_⟩|⟨g,cap,cur,rfl,_⟩
 ·exact⟨_,_,_,rfl⟩
 ·exact⟨_,_,_,rfl⟩
theorem cj (N:Nat) (w:World) (hN:(Lib.decDigits N).length<=20000) :
    Calls prog 153 #[.string (zs (N:Int))] w (zD w N):=by
 obtain⟨i0,hi,hz0,hz1,hz2⟩:=info_parts lz;obtain⟨s,hs⟩:∃ s,s=zs (N:Int):=⟨_,rfl⟩
 rw[← hs];have hsl:s.data.toList=[] ++ Lib.decDigits N ++ []:=by rw[hs,bH,dr];simp
 have hd:=iG hsl (a7 _);have hsv:=jF hsl;have hsz:s.size=(Lib.decDigits N).length:=by rw[hs,bj]
 simp only[List.length_nil,Nat.zero_add] at hd hsv;rw[← hsz] at hd hsv;rw[cG] at hsv;have hs2:s.size<=20000:=ae;have HD:=aj hd;have HI0:Hid (iZ s N s.size []):=aj ⟨Nat.le_refl _,fun _=>by simp,by simp,fun x hx=>by simp at hx,by rw[hsv];simp[mv]⟩;clear hs hsl hd hsv hsz hN;go_enter func153,ntmps153;go_wp2;go_loopw [3,4] (fun out z W=>∃ (Z:Int) (P:List Nat),z = .int .i64 Z/\-4<=Z/\Z<=20000/\Hid (iZ s N Z.toNat P)/\W.ownsRow w.heap.size 3 1 out P.length (P.map fun(x:Nat)=>Value.int .i64 x)/\Ext w W)
  (fun _ z _=>(intOf z).toNat)
 case atStart=>exact⟨s.size,[],rfl,ae,ae,aj (by simpa using HI0.o),⟨rfl,Or.inl ⟨rfl,rfl⟩⟩,Ext.refl _⟩
 case round =>
  obtain⟨Z,P,rfl,hZ1,hZ2,hinv,hown,hx⟩:=hrel;obtain⟨oa,on,oc,rfl⟩:=mu hown;by_cases hZ:0<Z
  ·obtain⟨e,rfl⟩:∃ e:Nat,Z=e:=⟨Z.toNat,ae⟩
   have he:0<e:=ae;have hle:e<=s.size:=by have:=hinv.out.le;simpa using this
   have hroom:P.length<=6000:=by have:=hinv.out.room;omega
   obtain⟨lo,hlo⟩:∃ lo,lo=e-4:=⟨_,rfl⟩
   have hmax:max 0 ((e:Int)-4)=(lo:Int):=ae;have hlo2:lo<=e:=ae;have HL:=aj hlo;have HO:=aj hown;clear hlo hown;go_wp2;go_loop [5,6] (fun n i=>∃ (k M:Nat),lo<=k/\k<=e/\i = .int .i64 k/\n = .int .i64 M/\M<10000/\Hid (M=ep s lo k)) (fun _ i=>e-(intOf i).toNat)
   case atStart=>exact⟨lo,0,Nat.le_refl _,hlo2,rfl,rfl,ae,aj (ck s lo).symm⟩
   case round =>
    obtain⟨k,M,hk1,hk2,rfl,rfl,hM,HM⟩:=hrel;by_cases hk:k<e
    ·have hks:k<s.size:=ae;obtain⟨_,d1,d2⟩:=HD.o k (Nat.zero_le _) hks;have hst:=eh s lo k hk1 hks;have hb:M<1000:=by
      rw[HM.o];have h1:=kT s lo s.size k (fun i a b=>HD.o i (Nat.zero_le _) b) hk1 ae;have h2:10 ^ (k-lo)<=10 ^ 3:=Nat.pow_le_pow_right af (by have:=HL.o;omega);exact Nat.lt_of_lt_of_le h1 h2
     have HST:=aj hst;clear hst;go_wp2;go_round
     case rel=>exact⟨k+1,10*M+(s[k].toNat-48),ae,ae,by go_num,by simp only[Value.int.injEq,true_and];omega,ae,aj (by rw[HST.o,HM.o])⟩
     case measure=>simp[intOf];omega
    ·obtain rfl:k=e:=ae;have HST:=aj ((show iZ s N k P by have:=hinv.out;simpa using this).step he HL.o HD.o);go_wp2_with (at_builtin;refine wpList_append_own (wr.alloc (.cells #[.int .i64 (M:Int)] 3)) rfl _ _ 85 rfl w.heap.size 3 i0 (.int .i64 0) 1 8 underlying85 hi hz0 hz1 hz2 rfl af _ P.length _ rfl (HO.o.alloc _) ⟨wr.heap.size,0,none⟩ 1 1 [.int .i64 (M:Int)] rfl rfl (jo wr M _) (by intro u hu;simp at hu;subst hu;rfl) (by unfold maxLen;omega) ae (by have:=hx.size;simp;omega) ?_;intro v' w1 hown1 hgrow1 hv1);go_roundw
     case rel =>
      refine⟨(k:Int)-4,P ++ [M],rfl,ae,ae,aj (by rw[HM.o,show((k:Int)-4).toNat=lo by have:=HL.o;omega];exact HST.o),?_,?_⟩
      ·rw[List.length_append,List.map_append];exact hown1
      ·exact(hx.alloc _).grown hgrow1 (fun g hg=>df HO.o g hg)
     case measure=>simp[intOf];omega
  ·have hval:=hinv.out.val;rw[show Z.toNat=0 by omega,ck,Nat.mul_zero,Nat.add_zero] at hval;have HV:=aj hval;have HH:=aj (Holds.bX hown);clear hval hown;go_wp2_with (go_at_call 222;refine(oI P _ _ HH.o hinv.out.lt).mono ?_;rintro e w' ⟨v',rfl,rfl,hm,_⟩);go_ret;exact⟨_,rfl,hx,by rw[HV.o] at hm;exact hm⟩
def kp(x:Nat):List UInt8:=List.replicate (4-(Lib.decDigits x).length) 48 ++ Lib.decDigits x
theorem uC{x:Nat}(h:x<10000):(Lib.decDigits x).length<=4:=bB (k:=4) af ae
theorem fZ{x:Nat}(h:x<10000):(kp x).length=4:=by
 unfold kp;have:=uC h;simp;omega
theorem yg(x:Nat):val (kp x)=x:=by unfold kp;rw[nS,cG]
theorem vC(x:Nat):∀ b ∈ kp x,cC b=true:=by
 intro b hb;rcases List.mem_append.1 hb with hb|hb
 ·rw[(List.mem_replicate.1 hb).2];decide
 ·exact a7 _ _ hb
theorem oH{m x:Nat}(hm:m≠0)(hx:x<10000):Lib.decDigits (x+10000*m)=Lib.decDigits m ++ kp x:=by
 have hv:val (Lib.decDigits m ++ kp x)=x+10000*m:=by
  rw[bS,yg,fZ hx,cG];omega
 rw[← hv];obtain⟨b,t,e,hb⟩:=iH m hm;refine gh _ (by simp[gr]) (fun b hb=>?_) (Or.inl ?_)
 ·rcases List.mem_append.1 hb with h|h
  ·exact a7 _ _ h
  ·exact vC _ _ h
 ·rw[e];simp[hb]
theorem BH{x:Nat}(hx:x<10000):zs (10000+(x:Int))=⟨(49 :: kp x).toArray⟩/\(zs (10000+(x:Int))).size=5/\(zs (10000+(x:Int))).extract 1 5=⟨(kp x).toArray⟩:=by
 have e:zs (10000+(x:Int))=⟨(49 :: kp x).toArray⟩:=by
  unfold zs;rw[show(10000+(x:Int))=((x+10000*1:Nat):Int) by omega,dr,oH af hx,lD];rfl
 refine⟨e,by rw[e];simp[ByteArray.size,fZ hx],?_⟩;rw[e];apply bO;rw[dV];show(kp x).take (5-1)=kp x;exact List.take_of_length_le (by rw[fZ hx];omega)
def lR(L:List Nat)(k:Nat):List UInt8:=Lib.decDigits (mv 10000 (L.drop (L.length-k)))
theorem uM(L:List Nat):lR L L.length=Lib.decDigits (mv 10000 L):=by
 unfold lR;rw[Nat.sub_self,List.drop_zero]
theorem rY{L:List Nat}{i:Nat}(hi:i<L.length)(h:i=L.length-1):lR L 1=Lib.decDigits (L[i]?.getD 0):=by
 unfold lR;rw[show L.length-1=i by omega,List.drop_eq_getElem_cons hi,List.drop_eq_nil_of_le ae,cS];simp[hi]
theorem uL{L:List Nat}{i k:Nat}(hL:Canon 10000 L)(hk:k≠0)(hi:i<L.length)(h:i=L.length-1-k)(hkl:k<L.length):lR L (k+1)=lR L k ++ kp (L[i]?.getD 0):=by
 unfold lR;rw[show L.length-(k+1)=i by omega,List.drop_eq_getElem_cons hi,show i+1=L.length-k by omega];have hc:=hL.drop (L.length-k);have hpos:=hc.pos af (by intro e;have:=congrArg List.length e;simp at this;omega);rw[show L[i]?.getD 0=L[i] by simp[hi],← oH ae (hL.lt _ (List.getElem_mem hi))];rfl
theorem xm{L:List Nat}(hL:aC 10000 L)(k:Nat)(hk:k<=L.length)(h0:0<k):(lR L k).length<=4*k:=by
 unfold lR;refine bB ae ?_;have:=iw (B:=10000) (l:=L.drop (L.length-k)) (fun x hx=>hL x (List.mem_of_mem_drop hx));rw[List.length_drop,show L.length-(L.length-k)=k by omega] at this;rwa[Nat.pow_mul]
theorem wu(x y:List UInt8):(⟨x.toArray⟩:ByteArray) ++ ⟨y.toArray⟩=⟨(x ++ y).toArray⟩:=by
 apply bO;rw[ByteArray.data_append,Array.toList_append]
set_option maxHeartbeats 1000000 in
theorem vU(ad:Option Addr)(c:Nat)(w:World):Calls prog 223 #[.slice ad 0 c] w (aR w (.string (zs 0))):=by
 rw[tv];go_enter func223,ntmps223;go_wp2;go_ret;exact⟨rfl,Ext.refl _⟩
theorem yZ (N:Nat) (ad:Option Addr) (n c:Nat) (w:World) (hm:cK w (.slice ad n c) N) (hn0:0<n) (hn:n<=6000) (g:Gd w) :
    Calls prog 223 #[.slice ad n c] w (aR w (.string (zs (N:Int)))):=by
 obtain⟨L,hL,cL,hLv⟩:=hm;obtain⟨ad',ca,ba,oa,heq,h1a,hca,hba,hCa⟩:=hL;simp only[Value.slice.injEq] at heq;obtain⟨rfl,hnl,rfl⟩:=heq;have HN:=aj hnl;have HLV:=aj hLv;have HC:=aj cL;rw[← hnl] at h1a hba hCa;obtain⟨rfl,hbs⟩:=hba hn0;have H2:=aj hCa;have HG:=aj g;obtain⟨j,rfl⟩:∃ j,n=j+1:=⟨n-1,ae⟩
 obtain⟨x,hx⟩:∃ x,x=L[j]?.getD 0:=⟨_,rfl⟩
 have hxlt:x<10000:=by rw[hx];exact aK af cL.lt j
 have hc0:w.cell? ⟨ba,oa+j,none⟩=some (.int .i64 (x:Int)):=by rw[hx];exact hCa j ae
 have HX:=aj hx;have ej:((j+1:Nat):Int)-1=(j:Int):=ae;clear hnl hLv hCa cL g hba hx hn0;go_enter func223,ntmps223;go_wp2_with (go_at_call 193;refine cto (fS (x:Int) ae ae _ HG.o) fun w1 e1=>?_);clear ej hc0;go_loopw [3,4] (fun out i W=>∃ k:Nat,1<=k/\k<=j+1/\i = .int .i64 ((j:Int)-k)/\(∃ o:ByteArray,out = .string o/\o.size<=24000/\Hid (o=⟨(lR L k).toArray⟩))/\Ext w W) (fun _ i _=>(intOf i+1).toNat)
 case atStart =>
  refine⟨1,Nat.le_refl _,ae,by congr 1;omega,⟨zs (x:Int),rfl,by rw[bj];have:=uC hxlt;omega,aj ?_⟩,e1⟩;rw[rY (by rw[← HN.o];exact Nat.lt_succ_self j) (by rw[← HN.o];rfl),← HX.o];unfold zs;rw[dr]
 case round =>
  obtain⟨k,hk1,hk2,rfl,⟨o,rfl,ho,HO⟩,hx⟩:=hrel;by_cases hk:k<=j
  ·obtain⟨i,hi⟩:∃ i,i=j-k:=⟨_,rfl⟩
   have ei:(j:Int)-k=(i:Int):=ae;rw[ei];obtain⟨y,hy⟩:∃ y,y=L[i]?.getD 0:=⟨_,rfl⟩
   have hylt:y<10000:=by rw[hy];exact aK af HC.o.lt i
   have hc0:wr.cell? ⟨ba,oa+i,none⟩=some (.int .i64 (y:Int)):=by rw[hy];exact(hx.cell (p:=⟨ba,oa+i,none⟩) hbs).trans (H2.o i ae)
   have hi2:i<j+1:=ae;obtain⟨_,z2,z3⟩:=BH hylt;obtain⟨zz,hzz⟩:∃ zz,zz=zs (10000+(y:Int)):=⟨_,rfl⟩
   rw[← hzz] at z2 z3;have HZ:=aj hzz;have Z3:=aj z3;have HY:=aj hy;have HI:=aj hi;have z3s:(zz.extract 1 5).size=4:=by rw[z3];simp[ByteArray.size,fZ hylt]
   have Z3S:=aj z3s;have hk1':(1:Int)<=(zz.size:Int):=ae;have HO4:Hid (o ++ zz.extract 1 5=⟨(lR L (k+1)).toArray⟩):=aj (by
    rw[HO.o,z3,wu,uL HC.o ae (by rw[← HN.o];omega) (by rw[← HN.o];omega) (by rw[← HN.o];omega),hy])
   clear ei hzz z3 hy hi z3s;go_wp2_with (go_at_call 193;refine(fS (10000+(y:Int)) ae ae _ (HG.o.ext hx)).mono ?_;rw[← HZ.o];rintro e w2 ⟨rfl,e2⟩);go_roundw
   case rel =>
    refine⟨k+1,ae,ae,by have:=HI.o;congr 1;omega,⟨_,rfl,?_,HO4⟩,hx.trans e2⟩;rw[HO4.o];have:=xm HC.o.lt (k+1) (by rw[← HN.o];omega) ae;simp[ByteArray.size];omega
   case measure=>(simp[intOf]);try (have:=HI.o;omega)
  ·obtain rfl:k=j+1:=ae;have E:Hid (o=zs (N:Int)):=aj (by rw[HO.o,HN.o,uM,HLV.o];unfold zs;rw[dr]);have hneg:¬ (0:Int)<=(j:Int)-((j+1:Nat):Int):=ae;go_wp2;go_ret;exact⟨bT E.out,hx⟩
theorem cK.jt{w:World}{ad:Option Addr}{n c N:Nat}(h:cK w (.slice ad n c) N)(f:gu N):n<=5000:=by
 obtain⟨l,⟨ad',cap,b,off,hv,_⟩,hc,hm⟩:=h;simp only[Value.slice.injEq] at hv;rw[hv.2.1];exact f.len hc hm
theorem sV (N:Nat) (ad:Option Addr) (n c:Nat) (w:World) (hm:cK w (.slice ad n c) N) (f:gu N) (g:Gd w) :
    Calls prog 223 #[.slice ad n c] w (aR w (.string (zs (N:Int)))):=by
 have hn:=hm.jt f;by_cases h0:n=0
 ·subst h0;have:=hm.cF.1 rfl;subst this;exact vU ad c w
 ·exact yZ N ad n c w hm ae ae g
set_option maxHeartbeats 1000000 in
theorem cV (s:Bool) (N0:Nat) (v:Value) (w:World) (hm:cK w v N0) (f:gu N0) (g:Gd w) :
    Calls prog 151 #[.bool s,v] w (aR w (.string (zs (eI s N0)))):=by
 obtain⟨L,hL,cL,rfl⟩:=hm;have hcut:=oI L v w hL cL.lt;obtain⟨N,hN⟩:∃ N,N=mv 10000 L:=⟨_,rfl⟩
 unfold rO at hcut;rw[← hN] at hcut f ⊢;have HC:=aj hcut;have HF:=aj f;have HG:=aj g;obtain⟨ad,nn,cc,rfl⟩:∃ ad nn cc,v = .slice ad nn cc:=by obtain⟨ad,cap,b,off,hv,_⟩:=hL;exact⟨_,_,_,hv⟩
 clear hcut f g hL cL hN;by_cases h0:N=0
 ·have H0:Hid (eI s N=(N:Int)):=aj (by subst h0;exact qA s);have H1:=aj h0;clear h0;cases s
  all_goals
   go_enter func151,ntmps151;go_wp2_with (first
    | (go_at_call 222;refine HC.o.mono ?_;rintro e w' ⟨v',rfl,rfl,hm,_,_,k,cap,_,rfl⟩;have hk0:k=0:=hm.cF.2 H1.o;subst hk0)
    | (go_at_call 223;refine cto (sV N _ _ _ _ hm HF.o HG.o) fun w1 e1=>?_))
   go_ret;exact⟨cW H0.o.symm,e1⟩
 ·cases s
  ·have H0:Hid (eI false N=(N:Int)):=aj rfl;go_enter func151,ntmps151;go_wp2_with (first
    | (go_at_call 222;refine HC.o.mono ?_;rintro e w' ⟨v',rfl,rfl,hm,_,_,k,cap,_,rfl⟩)
    | (go_at_call 223;refine cto (sV N _ _ _ _ hm HF.o HG.o) fun w1 e1=>?_))
   go_ret;exact⟨cW H0.o.symm,e1⟩
  ·have H0:Hid ((⟨#[45]⟩:ByteArray) ++ zs (N:Int)=zs (eI true N)):=aj (lG ae);have hsz:(zs (N:Int)).size<=30000:=by
    rw[bj];refine Nat.le_trans (bB (k:=20000) af ?_) af;have:=HF.o.out;rwa[show(10000:Nat)=10 ^ 4 by decide,← Nat.pow_mul,show 4*wg=20000 by decide] at this
   have H1:=aj h0;clear h0;go_enter func151,ntmps151;go_wp2_with (first
    | (go_at_call 222;refine HC.o.mono ?_;rintro e w' ⟨v',rfl,rfl,hm,_,_,k,cap,_,rfl⟩;have hk0:0<k:=by rcases Nat.eq_zero_or_pos k with h|h;(exact absurd (hm.cF.1 h) H1.o);exact h)
    | (go_at_call 223;refine cto (sV N _ _ _ _ hm HF.o HG.o) fun w1 e1=>?_))
   go_ret;exact⟨bT H0.o,e1⟩
end Go.Proofs.YtmahadmefplbnaaGreatDoor
