/- Part 19. -/
import Derived.Test.YtmahadmefplbnaaGreatDoorQFVB
import Derived.Test.YtmahadmefplbnaaGreatDoorQFV18
import Derived.Deep.LoopGhost
set_option maxRecDepth 100000
set_option maxHeartbeats 2000000
open Go.Proofs.Tryz
namespace Go.Proofs.YtmahadmefplbnaaGreatDoor
open Go Go.RowKit
theorem CI(X:Int):max X (-X)=(X.natAbs:Int):=ae
theorem ym(a b:Int)(w:World)(g:Gd w)(ha:(zl a).length<=18)(hb:(zl b).length<=18):Calls prog 182 #[.string (zs a),.string (zs b)] w (aD w (.string (zs (Int.gcd a b)))):=by
 have h1:=cd ha;have h2:=cd hb;have ba:a.natAbs<=1000000000000000000:=Nat.le_of_lt h1;have bb:b.natAbs<=1000000000000000000:=Nat.le_of_lt h2;have HA:=ai ha;have HB:=ai hb;have BA:=ai ba;have BB:=ai bb;clear h1 h2 ha hb ba bb;go_enter func182,ntmps182;go_wp2_with (first
  | (go_at_call 167;((with_reducible refine(cJ a 18 w (by have:=HA.o;omega) af).mono ?_);rintro e w1 ⟨rfl,e1⟩))
  | (go_at_call 167;refine cto (cJ b 18 _ (by have:=HB.o;omega) af) fun w2 e2=>?_))
 go_loopw [5,7] (fun x y W=>∃ X Y:Int,x = .int .i64 X/\y = .int .i64 Y/\Int.gcd X Y=Int.gcd a b/\X.natAbs<=1000000000000000000/\Y.natAbs<=1000000000000000000/\Ext w W)
  (fun _ y _=>(intOf y).natAbs)
 case atStart=>exact⟨a,b,rfl,rfl,rfl,BA.out,BB.out,e1.trans e2⟩
 case round =>
  obtain⟨X,Y,rfl,rfl,hg,hX,hY,hx⟩:=hrel;have HGC:=ai hg;have HX:=ai hX;have HY:=ai hY;have x1:-1000000000000000000<=X:=ae;have x2:X<=1000000000000000000:=ae;have y1:-1000000000000000000<=Y:=ae;have y2:Y<=1000000000000000000:=ae;clear hg hX hY;by_cases h0:Y=0
  ·subst h0;have hf:Int.gcd a b=X.natAbs:=by rw[← HGC.o,Int.gcd_zero]
   have HF:=ai hf;clear hf;go_wp2_with (go_at_call 168;refine cto (uA (max X (-X)) ae ae _ (g.ext hx)) fun w3 e3=>?_);go_ret;exact⟨a8 (by rw[CI,HF.o]),hx.trans e3⟩
  ·have hs:=sN X Y;have hm:=Int.natAbs_tmod X Y;have hlt:=Nat.mod_lt X.natAbs (show 0<Y.natAbs by omega);have HS:=ai hs;have HL:=ai (show(X.tmod Y).natAbs<Y.natAbs by omega);clear hs hm hlt;go_wp2;go_region
   all_goals
    go_roundw
    case rel=>(repeat apply Exists.intro);exact⟨⟨Y,X.tmod Y,rfl,rfl,by rw[HS.o,HGC.o],HY.o,by have:=HL.o;have:=HY.o;omega,hx.drew⟩,rfl⟩
    case measure=>have:=HL.o;simpa[intOf] using this
theorem wU(s:Bool)(ad:Option Addr)(n c:Nat)(w:World):(Instr.field 216 (.agg #[.bool s,.slice ad n c]) 1).run prog w = .ok (.slice ad n c) w:=ag
theorem Fd.mono{a b:Nat}(h:Fd a)(hb:b<=a):Fd b:=⟨Nat.lt_of_le_of_lt hb h.out⟩
set_option maxHeartbeats 4000000 in
theorem Dh(a b:Int){k m:Nat}(w:World)(g:Gd w)(ha:IB k a)(hb:IB m b)(hk:k<=9000)(hm:m<=9000)(h:¬ ((zl a).length<=18/\(zl b).length<=18)):Calls prog 182 #[.string (zs a),.string (zs b)] w (aD w (.string (zs (Int.gcd a b)))):=by
 have la:=ha.len hk;have lb:=hb.len hm;have HA:=ai (ha.fit hk);have HB:=ai (hb.fit hm);have HG:=ai g;clear ha hb g;have hfp:=wU;by_cases h9:(zl a).length<=18
 ·have h9':¬ (zl b).length<=18:=fun e=>h ⟨h9,e⟩
  have H9:=ai h9;have H9':=ai h9';clear h h9 h9';go_enter func182,ntmps182;go_wp2_with (first
   | (go_at_call 167;((with_reducible refine(cJ a 18 w (by have:=H9.o;omega) af).mono ?_);rintro e w1 ⟨rfl,e1⟩))
   | (go_at_call 167;refine cto (dG b 18 _ (by have:=H9'.o;omega)) fun w2 e2=>?_)
   | (go_at_call 169;((with_reducible refine(bW a w2 la).mono ?_);rintro e w3 ⟨va,rfl,e3,ad,na,ca,rfl,ma⟩))
   | (go_at_call 169;refine(bW b w3 lb).mono ?_;rintro e w4 ⟨vb,rfl,e4,bd,nb,cb,rfl,mb⟩))
  have e12:Ext w w2:=e1.trans e2;clear e1 e2;go_loopg [9,10] b.natAbs (fun gk x y W=>∃ (X Y:Nat) (xa ya:Option Addr) (xn xc yn yc:Nat),x = .slice xa xn xc/\y = .slice ya yn yc/\cE W (.slice xa xn xc) X/\cE W (.slice ya yn yc) Y/\Y<=gk/\Nat.gcd X Y=Int.gcd a b/\Fd X/\Fd Y/\Ext w W)
  case atStart=>exact⟨a.natAbs,b.natAbs,_,_,_,_,_,_,rfl,rfl,ma.ext e4,mb,Nat.le_refl _,rfl,HA.o,HB.o,(e12.trans e3).trans e4⟩
  case round =>
   obtain⟨X,Y,xa,ya,xn,xc,yn,yc,rfl,rfl,mx,my,hk,hgc,fx,fy,hx⟩:=hrel;have hl:=my.c8;have HMX:=ai mx;have HMY:=ai my;have HGC:=ai hgc;have HFX:=ai fx;have HFY:=ai fy;clear mx my hgc fx fy;by_cases h0:yn=0
   ·have hY:=hl.1 h0;subst h0;subst hY;have hf:Int.gcd a b=X:=by rw[← HGC.o,Nat.gcd_zero_right]
    have HF:=ai hf;clear hf hl;go_wp2_with (go_at_call 171;refine cto (cw false X _ _ _ _ HMX.o HFX.o.fit.lG (HG.o.ext hx)) fun w9 e9=>?_);go_ret;exact⟨a8 (by rw[HF.o];rfl),hx.trans e9⟩
   ·have hY:0<Y:=by
     rcases Nat.eq_zero_or_pos Y with h|h
     ·exact absurd (hl.2 h) h0
     ·exact h
    have hyn:0<yn:=ae;have hmod:=Nat.mod_lt X hY;have HY:=ai hY;clear hl hY;go_wp2_with (go_at_call 246;refine(fR X Y _ _ _ HMX.o HMY.o HY.o HFX.o).mono ?_;rintro e w5 ⟨vq,vr,rfl,e5,mq,mr⟩;obtain⟨qa,ql,qc,rfl⟩:=mq.slice;obtain⟨ra,rl,rc,rfl⟩:=mr.slice);go_roundg (X % Y)
    case rel=>exact⟨Y,X % Y,ya,ra,yn,yc,rl,rc,rfl,rfl,HMY.o.ext e5,mr,Nat.le_refl _,by rw[← HGC.o,Nat.gcd_comm,← Nat.gcd_rec,Nat.gcd_comm],HFY.o,HFX.o.mono (Nat.mod_le _ _),hx.trans e5⟩
    case measure=>omega
 ·have H9:=ai h9;clear h h9;go_enter func182,ntmps182;go_wp2_with (first
   | (go_at_call 167;((with_reducible refine(dG a 18 w (by have:=H9.o;omega)).mono ?_);rintro e w2 ⟨rfl,e12⟩))
   | (go_at_call 169;((with_reducible refine(bW a w2 la).mono ?_);rintro e w3 ⟨va,rfl,e3,ad,na,ca,rfl,ma⟩))
   | (go_at_call 169;refine(bW b w3 lb).mono ?_;rintro e w4 ⟨vb,rfl,e4,bd,nb,cb,rfl,mb⟩))
  go_loopg [9,10] b.natAbs (fun gk x y W=>∃ (X Y:Nat) (xa ya:Option Addr) (xn xc yn yc:Nat),x = .slice xa xn xc/\y = .slice ya yn yc/\cE W (.slice xa xn xc) X/\cE W (.slice ya yn yc) Y/\Y<=gk/\Nat.gcd X Y=Int.gcd a b/\Fd X/\Fd Y/\Ext w W)
  case atStart=>exact⟨a.natAbs,b.natAbs,_,_,_,_,_,_,rfl,rfl,ma.ext e4,mb,Nat.le_refl _,rfl,HA.o,HB.o,(e12.trans e3).trans e4⟩
  case round =>
   obtain⟨X,Y,xa,ya,xn,xc,yn,yc,rfl,rfl,mx,my,hk,hgc,fx,fy,hx⟩:=hrel;have hl:=my.c8;have HMX:=ai mx;have HMY:=ai my;have HGC:=ai hgc;have HFX:=ai fx;have HFY:=ai fy;clear mx my hgc fx fy;by_cases h0:yn=0
   ·have hY:=hl.1 h0;subst h0;subst hY;have hf:Int.gcd a b=X:=by rw[← HGC.o,Nat.gcd_zero_right]
    have HF:=ai hf;clear hf hl;go_wp2_with (go_at_call 171;refine cto (cw false X _ _ _ _ HMX.o HFX.o.fit.lG (HG.o.ext hx)) fun w9 e9=>?_);go_ret;exact⟨a8 (by rw[HF.o];rfl),hx.trans e9⟩
   ·have hY:0<Y:=by
     rcases Nat.eq_zero_or_pos Y with h|h
     ·exact absurd (hl.2 h) h0
     ·exact h
    have hyn:0<yn:=ae;have hmod:=Nat.mod_lt X hY;have HY:=ai hY;clear hl hY;go_wp2_with (go_at_call 246;refine(fR X Y _ _ _ HMX.o HMY.o HY.o HFX.o).mono ?_;rintro e w5 ⟨vq,vr,rfl,e5,mq,mr⟩;obtain⟨qa,ql,qc,rfl⟩:=mq.slice;obtain⟨ra,rl,rc,rfl⟩:=mr.slice);go_roundg (X % Y)
    case rel=>exact⟨Y,X % Y,ya,ra,yn,yc,rl,rc,rfl,rfl,HMY.o.ext e5,mr,Nat.le_refl _,by rw[← HGC.o,Nat.gcd_comm,← Nat.gcd_rec,Nat.gcd_comm],HFY.o,HFX.o.mono (Nat.mod_le _ _),hx.trans e5⟩
    case measure=>omega
theorem jr(a b:Int){k m:Nat}(w:World)(g:Gd w)(ha:IB k a)(hb:IB m b)(hk:k<=9000)(hm:m<=9000):Calls prog 182 #[.string (zs a),.string (zs b)] w (aD w (.string (zs (Int.gcd a b)))):=by
 by_cases h:(zl a).length<=18/\(zl b).length<=18
 ·exact ym a b w g h.1 h.2
 ·exact Dh a b w g ha hb hk hm h
theorem indexByte_none{c:UInt8}:∀ {l:List UInt8},c ∉ l->Lib.indexByte l c=-1
 | [],_=>rfl
 | b :: l,h=>by
  have h1:(b == c)=false:=by simpa using fun e=>h (by simp[e])
  simp[Lib.indexByte,h1,indexByte_none (fun e=>h (List.mem_cons_of_mem _ e))]
theorem hU{c:UInt8}{y:List UInt8}:∀ {x:List UInt8},c ∉ x->Lib.indexByte (x ++ c :: y) c=x.length
 | [],_=>by simp[Lib.indexByte]
 | b :: x,h=>by
  have h1:(b == c)=false:=by simpa using fun e=>h (by simp[e])
  have ih:=hU (y:=y) (fun e=>h (List.mem_cons_of_mem _ e));have h2:((x.length:Int) == -1)=false:=by simp
  simp only[List.cons_append,Lib.indexByte,h1,ih,h2];simp
theorem lj(l:List UInt8):(47:UInt8) ∉ l∨∃ x y,l=x ++ 47 :: y/\(47:UInt8) ∉ x:=by
 induction l with
 | nil=>exact Or.inl (by simp)
 | cons b t ih =>
  by_cases h:b=47
  ·subst h;exact Or.inr ⟨[],t,rfl,by simp⟩
  ·rcases ih with ih|⟨x,y,rfl,hx⟩
   ·exact Or.inl (by simp[ih,Ne.symm h])
   ·exact Or.inr ⟨b :: x,y,rfl,by simp[hx,Ne.symm h]⟩
theorem Bn(s:ByteArray):s=⟨s.data.toList.toArray⟩:=by apply cf;simp
set_option maxHeartbeats 1000000 in
theorem xH (s:ByteArray) (w:World) (h:(47:UInt8) ∉ s.data.toList) :
    Calls prog 232 #[.string s,.string ⟨#[47]⟩] w fun e w'=>e = .returned (.tuple #[.string s,.string ⟨#[]⟩,.bool false])/\Ext w w':=by
 have hi:=indexByte_none h;have HI:=ai hi;clear hi h;go_enter func232,ntmps232;go_wp2_with (go_at_call 264;refine(stringslite_Index_one s 47 _).mono ?_;rw[HI.o];rintro e w' ⟨rfl,rfl⟩);go_ret3;exact⟨rfl,Ext.refl _⟩
theorem tj(x y:List UInt8):(⟨(x ++ 47 :: y).toArray⟩:ByteArray).extract 0 x.length=⟨x.toArray⟩:=by
 apply cf;rw[ek];simp
theorem px(x y:List UInt8):(⟨(x ++ 47 :: y).toArray⟩:ByteArray).extract (x.length+1) (⟨(x ++ 47 :: y).toArray⟩:ByteArray).size=⟨y.toArray⟩:=by
 apply cf;rw[ek];have:(⟨(x ++ 47 :: y).toArray⟩:ByteArray).size=x.length+1+y.length:=by(simp[ByteArray.size]);try omega
 rw[this,show x ++ 47 :: y=(x ++ [47]) ++ y by simp,show x.length+1=(x ++ [(47:UInt8)]).length by simp,List.drop_left];simp
set_option maxHeartbeats 1000000 in
theorem B9 (s:ByteArray) (x y:List UInt8) (w:World) (hs:s.data.toList=x ++ 47 :: y) (h:(47:UInt8) ∉ x) (hl:s.size<=1000000) :
    Calls prog 232 #[.string s,.string ⟨#[47]⟩] w fun e w'=>e = .returned (.tuple #[.string ⟨x.toArray⟩,.string ⟨y.toArray⟩,.bool true])/\Ext w w':=by
 have hi:Lib.indexByte s.data.toList 47=x.length:=by rw[hs];exact hU h
 have hsz:x.length+1<=s.size:=by
  have:s.size=s.data.toList.length:=by rw[Array.length_toList];rfl
  rw[this,hs];simp
 have hcl:=tj x y;have hcr:=px x y;rw[show(⟨(x ++ 47 :: y).toArray⟩:ByteArray)=s by rw[← hs]] at hcl hcr;obtain⟨n,hn⟩:∃ n,n=x.length:=⟨_,rfl⟩
 rw[← hn] at hi hsz hcl hcr;have HI:=ai hi;have HL:=ai hcl;have HR:=ai hcr;clear hi h hs hn hcl hcr;have hsz':(n:Int)+1<=(s.size:Int):=ae;have hsz2:(n:Int)<=(s.size:Int):=ae;go_enter func232,ntmps232;go_wp2_with (go_at_call 264;refine(stringslite_Index_one s 47 _).mono ?_;rw[HI.o];rintro e w' ⟨rfl,rfl⟩);go_region
 all_goals
  go_wp2;go_ret3;exact⟨by rw[← HL.o,← HR.o];rfl,(Ext.refl _).drew⟩
theorem ti (s:ByteArray) (w:World) (h:(47:UInt8) ∉ s.data.toList) :
    Calls prog 163 #[.string s,.string ⟨#[47]⟩] w (aD w (.tuple #[.string s,.string ⟨#[]⟩,.bool false])):=by
 go_enter func163,ntmps163;go_wp2_with (go_at_call 232;refine(xH s _ h).mono ?_;rintro e w' ⟨rfl,e1⟩);go_ret3;exact⟨rfl,e1⟩
theorem Bf (s:ByteArray) (x y:List UInt8) (w:World) (hs:s.data.toList=x ++ 47 :: y) (h:(47:UInt8) ∉ x) (hl:s.size<=1000000) :
    Calls prog 163 #[.string s,.string ⟨#[47]⟩] w (aD w (.tuple #[.string ⟨x.toArray⟩,.string ⟨y.toArray⟩,.bool true])):=by
 have HS:=ai hs;have H:=ai h;clear hs h;go_enter func163,ntmps163;go_wp2_with (go_at_call 232;refine(B9 s x y _ HS.o H.o hl).mono ?_;rintro e w' ⟨rfl,e1⟩);go_ret3;exact⟨rfl,e1⟩
theorem QB.len{k:Nat}{q:Rat}(h:QB k q)(hk:k<=9000):(qs q).size<=1000000:=by
 rw[j0];have h1:=eC (n:=q.num) (k:=k+1) ae (Nat.lt_of_lt_of_le h.num (Nat.pow_le_pow_right af ae));have h2:=bX (u:=q.den) (k:=k+1) ae (Nat.lt_of_lt_of_le h.den (Nat.pow_le_pow_right af ae));unfold ql;split
 ·omega
 ·simp;omega
theorem bT (q:Rat) {k:Nat} (w:World) (hq:QB k q) (hk:k<=9000) :
    Calls prog 86 #[.string (qs q)] w (aD w (.tuple #[.string (zs q.num),.string (zs q.den)])):=by
 have hl:=hq.len hk;by_cases h:q.den=1
 ·have e1:qs q=zs q.num:=by unfold qs zs;rw[dK h]
  have e2:zs (q.den:Int)=⟨#[49]⟩:=by rw[h];exact fe
  rw[e1,e2];have hns:(47:UInt8) ∉ (zs q.num).data.toList:=by rw[bQ];exact cT _
  have H:=ai hns;clear e1 e2 hns h hq hl;go_enter func86,ntmps86;go_wp2_with (go_at_call 163;refine(ti _ _ H.o).mono ?_;rintro e w' ⟨rfl,e1⟩);go_ret2;exact⟨rfl,e1⟩
 ·have hns:=cT q.num;have e1:(qs q).data.toList=zl q.num ++ 47 :: Lib.decDigits q.den:=by rw[dZ,cY h]
  have e2:zs (q.den:Int)=⟨(Lib.decDigits q.den).toArray⟩:=by unfold zs;rw[cW]
  have e3:zs q.num=⟨(zl q.num).toArray⟩:=rfl;rw[e2,e3];have H:=ai hns;have E:=ai e1;clear e1 e2 e3 hns h hq;go_enter func86,ntmps86;go_wp2_with (go_at_call 163;refine(Bf _ _ _ _ E.out H.o hl).mono ?_;rintro e w' ⟨rfl,e1⟩);go_ret2;exact⟨rfl,e1⟩
theorem js{k:Nat}{n:Int}(h:IB k n)(hk:k<=9000):(zs n).size<=100000:=by rw[dj];exact h.len hk
theorem jE(n:Int)(d:Nat):(zs n ++ (⟨#[47]⟩:ByteArray)) ++ zs (d:Int)=⟨(zl n ++ 47 :: Lib.decDigits d).toArray⟩:=by
 apply cf;rw[ByteArray.data_append,Array.toList_append,ByteArray.data_append,Array.toList_append,bQ,bQ,cW];simp
theorem nH (n:Int) (d:Nat) {k m:Nat} (w:World) (hn:IB k n) (hd:IB m (d:Int)) (hk:k<=9000) (hm:m<=9000) :
    Calls prog 249 #[.string (zs n),.string (zs (d:Int))] w fun e w'=>e = .returned (.string ⟨(eV n d).toArray⟩)/\w=w':=by
 have l1:=js hn hk;have l2:=js hd hm;by_cases h:d=1
 ·have h1:=pG (n:=(d:Int)) ae;have e:(⟨(eV n d).toArray⟩:ByteArray)=zs n:=by unfold eV;rw[if_pos h];rfl
  have E:=ai e;clear h e;go_enter func249,ntmps249;go_wp2;go_ret;exact⟨by rw[E.out];rfl,rfl⟩
 ·have h1:=lH (n:=(d:Int)) ae;have e:(⟨(eV n d).toArray⟩:ByteArray)=(zs n ++ (⟨#[47]⟩:ByteArray)) ++ zs (d:Int):=by unfold eV;rw[if_neg h,jE]
  have E:=ai e;clear h e;go_enter func249,ntmps249;go_wp2;go_ret;exact⟨by rw[E.out];rfl,rfl⟩
theorem pF{n:Int}(h:n=1):((zs n).toList != [49])=false:=by rw[dR,pH.2 h];rfl
theorem mf{n:Int}(h:n≠1):((zs n).toList != [49])=true:=by rw[dR];simpa using fun e=>h (pH.1 e)
theorem QB.cU{k:Nat}{q:Rat}(h:QB k q):IB k q.num:=⟨h.num⟩
theorem QB.cq{k:Nat}{q:Rat}(h:QB k q):IB k (q.den:Int):=⟨by rw[Int.natAbs_natCast];exact h.den⟩
theorem ye (n:Int) (d:Nat) (hd:d≠0) {k m:Nat} (hn:IB k n) (hdb:IB m (d:Int)) :
    IB m (Int.gcd n d:Int)/\IB k (n / (Int.gcd n d:Int))/\IB m ((d / Int.gcd n d:Nat):Int)/\(d:Int) / (Int.gcd n d:Int)=((d / Int.gcd n d:Nat):Int)/\(Int.gcd n d:Int)≠0 /\
     (⟨(eV (n / (Int.gcd n d:Int)) (d / Int.gcd n d)).toArray⟩:ByteArray)=qs (mkRat n d):=by
 have hg0:Int.gcd n d≠0:=Int.gcd_ne_zero_right ae;have hgd:Int.gcd n d<=d:=by have:=Int.gcd_le_natAbs_right n (b:=(d:Int)) ae;simpa using this
 refine⟨hdb.of_le (by simpa using hgd),hn.of_le (Int.natAbs_ediv_le_natAbs _ _),hdb.of_le (by simp only[Int.natAbs_natCast];exact Nat.div_le_self _ _),by simp,ae,?_⟩;have e:=rX (n:=n) (d:=d) (g:=Int.gcd n d) hd rfl;unfold qs;rw[e,Int.tdiv_eq_ediv_of_dvd (Int.gcd_dvd_left _ _)]
set_option maxHeartbeats 1000000 in
theorem fQ (n:Int) (d:Nat) (hd:d≠0) {k m:Nat} (w:World) (g:Gd w) (hn:IB k n) (hdb:IB m (d:Int)) (hk:k<=8000) (hm:m<=8000) :
    Calls prog 188 #[.string (zs n),.string (zs (d:Int))] w (aD w (.string (qs (mkRat n d)))):=by
 obtain⟨f1,f2,f3,f4,f5,f6⟩:=ye n d hd hn hdb;have hs:(d:Int).sign=1:=Int.sign_eq_one_of_pos ae;obtain⟨G,hG⟩:∃ G:Nat,G=Int.gcd n d:=⟨_,rfl⟩
 rw[← hG] at f1 f2 f3 f4 f5 f6;rw[← f6];have HF1:=ai f1;have HF2:=ai f2;have HF3:=ai f3;have HF4:=ai f4;have HF5:=ai f5;have HG:=ai hG;have HN:=ai hn;have HD:=ai hdb;have HS:=ai hs;have HGD:=ai g;by_cases h1:(G:Int)=1
 ·have g1:=pG h1;have g2:=pF h1;have e1:(⟨(eV (n / (G:Int)) (d / G)).toArray⟩:ByteArray)=⟨(eV n d).toArray⟩:=by
   have:G=1:=ae;subst this;simp
  have E1:=ai e1;clear f1 f2 f3 f4 f5 f6 hG hn hdb hs g h1 e1 hd;go_enter func188,ntmps188;go_wp2_with (first
   | (go_at_call 164;refine(dJ _ _).mono ?_;rw[HS.o];rintro e w' ⟨rfl,rfl⟩)
   | (go_at_call 182;refine(jr _ _ _ HGD.o HN.o HD.o ae ae).mono ?_;rw[← HG.o];rintro e w1 ⟨rfl,e1⟩)
   | (go_at_call 249;refine(nH _ _ _ HN.o HD.o ae ae).mono ?_;rintro e w' ⟨rfl,rfl⟩))
  go_ret;exact⟨by rw[E1.out];rfl,e1⟩
 ·have g1:=lH h1;have g2:=mf h1;clear f1 f2 f3 f4 f5 f6 hG hn hdb hs g h1 hd;go_enter func188,ntmps188;go_wp2_with (first
   | (go_at_call 164;refine(dJ _ _).mono ?_;rw[HS.o];rintro e w' ⟨rfl,rfl⟩)
   | (go_at_call 182;refine(jr _ _ _ HGD.o HN.o HD.o ae ae).mono ?_;rw[← HG.o];rintro e w1 ⟨rfl,e1⟩)
   | (go_at_call 228;((with_reducible refine(iO n (G:Int) w1 (HGD.o.ext e1) HN.o HF1.o ae ae HF5.o).mono ?_);rintro e w2 ⟨rfl,e2⟩))
   | (go_at_call 228;refine(iO (d:Int) (G:Int) _ (HGD.o.ext (e1.trans e2)) HD.o HF1.o ae ae HF5.o).mono ?_;rw[HF4.o];rintro e w3 ⟨rfl,e3⟩)
   | (go_at_call 249;refine(nH _ _ _ HF2.o HF3.o ae ae).mono ?_;rintro e w' ⟨rfl,rfl⟩))
  go_ret;exact⟨rfl,(e1.trans e2).trans e3⟩
def eF(s:ByteArray)(a i:Nat):Nat:=val ((s.data.toList.drop a).take (i-a))
theorem cB(s:ByteArray)(a:Nat):eF s a a=0:=by simp[eF,val,bC]
theorem eE(s:ByteArray)(a i:Nat)(h:a<=i)(hi:i<s.size):eF s a (i+1)=10*eF s a i+(s[i].toNat-48):=by
 unfold eF;have hl:i-a<(s.data.toList.drop a).length:=by
  rw[List.length_drop,Array.length_toList];have:s.data.size=s.size:=rfl;omega
 rw[show i+1-a=(i-a)+1 by omega,List.take_succ_eq_append_getElem hl,cA,du,List.getElem_drop,bj s i hi];simp only[show a+(i-a)=i by omega,List.length_singleton,Nat.pow_one];omega
def vI(s:ByteArray)(a e:Nat):Prop:=∀ i,a<=i->i<e->∃ h:i<s.size,48<=(s[i].toNat:Int)/\(s[i].toNat:Int)<=57
theorem lI(s:ByteArray)(a e i:Nat)(hd:vI s a e)(h:a<=i)(hi:i<=e):eF s a i<10 ^ (i-a):=by
 induction i with
 | zero => obtain rfl : a = 0 := by omega
           rw[cB];decide
 | succ i ih =>
  by_cases h0:a=i+1
  ·subst h0;rw[cB];exact Nat.pow_pos af
  ·have:=ih ae ae;obtain⟨hs,h1,h2⟩:=hd i ae ae;rw[eE s a i ae hs,show i+1-a=(i-a)+1 by omega,Nat.pow_succ];omega
theorem lJ(s:ByteArray)(a e i:Nat)(hd:vI s a e)(h:a<=i)(hi:i<=e)(h9:i<a+9):eF s a i<100000000 :=
 Nat.lt_of_lt_of_le (lI s a e i hd h hi) (by
  have:10 ^ (i-a)<=10 ^ 8:=Nat.pow_le_pow_right af ae;exact this)
set_option maxHeartbeats 4000000 in
theorem xJ (s:ByteArray) (b0 e1:Nat) (mi fr:Bool) (w:World) (r1 r2:Int) (r3:Bool) (hsz:s.size<=1000000) (hs0:0<s.size)
    (hmi:(mi=true/\b0=1/\(s[0].toNat:Int)=45)∨(mi=false/\b0=0/\¬ (s[0].toNat:Int)=45))
    (hd1:vI s b0 e1) (h01:b0<e1)
    (hfr:(fr=true/\∃ h:e1<s.size,(s[e1].toNat:Int)=47)∨(fr=false/\e1=s.size)) (hd2:vI s (e1+1) s.size)
    (hr:Hid ((e1<=b0+9/\(fr=true->s.size<=e1+1+9)->r1=(if mi then -(eF s b0 e1:Int) else eF s b0 e1)/\r2=(if fr then(eF s (e1+1) s.size:Int) else 1)/\r3=true) /\
     (¬ (e1<=b0+9/\(fr=true->s.size<=e1+1+9))->r1=0/\r2=0/\r3=false))) :
    Calls prog 85 #[.string s] w fun e w'=>e = .returned (.tuple #[.int .i64 r1,.int .i64 r2,.bool r3])/\w=w':=by
 have HD1:=ai hd1;have HD2:=ai hd2;have HFR:=ai hfr;have hes:e1<=s.size:=by rcases hfr with⟨_,h,_⟩|⟨_,h⟩ <;> omega
 have hs0':(0:Int)<s.size:=ae;clear hd1 hd2 hfr;rcases hmi with⟨rfl,rfl,hm⟩|⟨rfl,rfl,hm⟩
 ·go_enter func85,ntmps85;go_wp2;go_loop [2,3,5] (fun n z i=>∃ (k N:Nat),1<=k/\k<=e1/\k<=1+9/\z = .int .i64 0/\i = .int .i64 k/\n = .int .i64 N/\N<1000000000/\Hid (N=eF s 1 k)) (fun _ _ i=>s.size-(intOf i).toNat)
  case atStart=>exact⟨1,0,Nat.le_refl _,ae,ae,rfl,rfl,rfl,ae,ai (cB s _).symm⟩
  case round =>
   obtain⟨k,N,hb,hke,hk9,rfl,rfl,rfl,hN,HN⟩:=hrel;by_cases hk:k<e1
   ·obtain⟨hks,d1,d2⟩:=HD1.o k hb hk;have hne:¬ (s[k].toNat:Int)=47:=ae;by_cases h9:k=1+9
    ·obtain⟨rfl,rfl,rfl⟩:=hr.out.2 ae;have h9a:1+9<=k:=ae;clear h9;go_wp2;go_ret3;exact⟨rfl,rfl⟩
    ·have hN8:N<100000000:=by rw[HN.o];exact lJ s 1 e1 k HD1.o hb hke ae
     have hst:=eE s 1 k hb hks;have HST:=ai hst;clear hst;have h9':¬ ((k:Int)-1=9):=ae;go_wp2;go_round
     case rel=>exact⟨k+1,10*N+(s[k].toNat-48),ae,ae,ae,rfl,by go_num,by simp only[Value.int.injEq,true_and];omega,ae,ai (by rw[HST.o,HN.o])⟩
     case measure=>simp[intOf];omega
   ·obtain rfl:k=e1:=ae;rcases HFR.o with⟨rfl,h47s,h47⟩|⟨rfl,he⟩
    ·have h47i:(k:Int)<s.size:=ae;go_wp2;go_loop [2,3,5] (fun z n i=>∃ (j M:Nat),k+1<=j/\j<=s.size/\j<=k+1+9/\z = .int .i64 (-(N:Int))/\i = .int .i64 j/\n = .int .i64 M/\M<1000000000/\Hid (M=eF s (k+1) j)) (fun _ _ i=>s.size-(intOf i).toNat)
     case atStart=>exact⟨k+1,0,Nat.le_refl _,ae,ae,rfl,by go_num,rfl,ae,ai (cB s _).symm⟩
     case round =>
      obtain⟨j,M,hb',hje,hj9,rfl,rfl,rfl,hM,HM⟩:=hrel;by_cases hj:j<s.size
      ·obtain⟨hjs,d1,d2⟩:=HD2.o j hb' hj;by_cases h9:j=k+1+9
       ·obtain⟨rfl,rfl,rfl⟩:=hr.out.2 (by intro h;have:=h.2 (by first|rfl|trivial);omega);have h9a:k+1+9<=j:=ae;clear h9;go_wp2;go_ret3;exact⟨rfl,rfl⟩
       ·have hM8:M<100000000:=by rw[HM.o];exact lJ s (k+1) s.size j HD2.o hb' hje ae
        have hst:=eE s (k+1) j hb' hjs;have HST:=ai hst;clear hst;have h9':¬ ((j:Int)-((k:Int)+1)=9):=ae;go_wp2;go_round
        case rel=>exact⟨j+1,10*M+(s[j].toNat-48),ae,ae,ae,rfl,by go_num,by simp only[Value.int.injEq,true_and];omega,ae,ai (by rw[HST.o,HM.o])⟩
        case measure=>simp[intOf];omega
      ·obtain rfl:s.size=j:=ae;have hfin:=hr.out.1 ⟨ae,fun _=>ae⟩;rw[← HN.o,← HM.o] at hfin;have HF:Hid (r1=-(N:Int)/\r2=M/\r3=true):=ai (by simpa using hfin);clear hfin;go_wp2;go_ret3;exact⟨by rw[HF.o.1,HF.o.2.1,HF.o.2.2];rfl,rfl⟩
    ·have hfin:=hr.out.1 ⟨ae,fun h=>by cases h⟩;rw[← HN.o] at hfin;have HF:Hid (r1=-(N:Int)/\r2=1/\r3=true):=ai (by simpa using hfin);have he':¬ ((k:Int)<s.size):=ae;have he2:(k:Int)=s.size:=ae;clear hfin;subst he;go_wp2;go_ret3;exact⟨by rw[HF.o.1,HF.o.2.1,HF.o.2.2];rfl,rfl⟩
 ·go_enter func85,ntmps85;go_wp2;go_loop [2,3,5] (fun n z i=>∃ (k N:Nat),0<=k/\k<=e1/\k<=0+9/\z = .int .i64 0/\i = .int .i64 k/\n = .int .i64 N/\N<1000000000/\Hid (N=eF s 0 k)) (fun _ _ i=>s.size-(intOf i).toNat)
  case atStart=>exact⟨0,0,Nat.le_refl _,ae,ae,rfl,rfl,rfl,ae,ai (cB s _).symm⟩
  case round =>
   obtain⟨k,N,hb,hke,hk9,rfl,rfl,rfl,hN,HN⟩:=hrel;by_cases hk:k<e1
   ·obtain⟨hks,d1,d2⟩:=HD1.o k hb hk;have hne:¬ (s[k].toNat:Int)=47:=ae;by_cases h9:k=0+9
    ·obtain⟨rfl,rfl,rfl⟩:=hr.out.2 ae;have h9a:0+9<=k:=ae;clear h9;go_wp2;go_ret3;exact⟨rfl,rfl⟩
    ·have hN8:N<100000000:=by rw[HN.o];exact lJ s 0 e1 k HD1.o hb hke ae
     have hst:=eE s 0 k hb hks;have HST:=ai hst;clear hst;have h9':¬ ((k:Int)-0=9):=ae;go_wp2;go_round
     case rel=>exact⟨k+1,10*N+(s[k].toNat-48),ae,ae,ae,rfl,by go_num,by simp only[Value.int.injEq,true_and];omega,ae,ai (by rw[HST.o,HN.o])⟩
     case measure=>simp[intOf];omega
   ·obtain rfl:k=e1:=ae;rcases HFR.o with⟨rfl,h47s,h47⟩|⟨rfl,he⟩
    ·have h47i:(k:Int)<s.size:=ae;go_wp2;go_loop [2,3,5] (fun z n i=>∃ (j M:Nat),k+1<=j/\j<=s.size/\j<=k+1+9/\z = .int .i64 ((N:Int))/\i = .int .i64 j/\n = .int .i64 M/\M<1000000000/\Hid (M=eF s (k+1) j)) (fun _ _ i=>s.size-(intOf i).toNat)
     case atStart=>exact⟨k+1,0,Nat.le_refl _,ae,ae,rfl,by go_num,rfl,ae,ai (cB s _).symm⟩
     case round =>
      obtain⟨j,M,hb',hje,hj9,rfl,rfl,rfl,hM,HM⟩:=hrel;by_cases hj:j<s.size
      ·obtain⟨hjs,d1,d2⟩:=HD2.o j hb' hj;by_cases h9:j=k+1+9
       ·obtain⟨rfl,rfl,rfl⟩:=hr.out.2 (by intro h;have:=h.2 (by first|rfl|trivial);omega);have h9a:k+1+9<=j:=ae;clear h9;go_wp2;go_ret3;exact⟨rfl,rfl⟩
       ·have hM8:M<100000000:=by rw[HM.o];exact lJ s (k+1) s.size j HD2.o hb' hje ae
        have hst:=eE s (k+1) j hb' hjs;have HST:=ai hst;clear hst;have h9':¬ ((j:Int)-((k:Int)+1)=9):=ae;go_wp2;go_round
        case rel=>exact⟨j+1,10*M+(s[j].toNat-48),ae,ae,ae,rfl,by go_num,by simp only[Value.int.injEq,true_and];omega,ae,ai (by rw[HST.o,HM.o])⟩
        case measure=>simp[intOf];omega
      ·obtain rfl:s.size=j:=ae;have hfin:=hr.out.1 ⟨ae,fun _=>ae⟩;rw[← HN.o,← HM.o] at hfin;have HF:Hid (r1=(N:Int)/\r2=M/\r3=true):=ai (by simpa using hfin);clear hfin;go_wp2;go_ret3;exact⟨by rw[HF.o.1,HF.o.2.1,HF.o.2.2];rfl,rfl⟩
    ·have hfin:=hr.out.1 ⟨ae,fun h=>by cases h⟩;rw[← HN.o] at hfin;have HF:Hid (r1=(N:Int)/\r2=1/\r3=true):=ai (by simpa using hfin);have he':¬ ((k:Int)<s.size):=ae;have he2:(k:Int)=s.size:=ae;clear hfin;subst he;go_wp2;go_ret3;exact⟨by rw[HF.o.1,HF.o.2.1,HF.o.2.2];rfl,rfl⟩
def jM(q:Rat):Prop:=q.num.natAbs<1000000000/\q.den<1000000000
theorem iP{s:ByteArray}{a d z:List UInt8}(h:s.data.toList=a ++ d ++ z)(hd:∀ b ∈ d,cV b=true):vI s a.length (a.length+d.length):=by
 intro i h1 h2;have hsz:s.size=(a ++ d ++ z).length:=by rw[← h,Array.length_toList];rfl
 have hi:i<s.size:=by rw[hsz];simp;omega
 refine⟨hi,?_⟩;have e:s[i]=d[i-a.length]'(by omega):=by
  rw[bj s i hi];simp only[h];rw[List.getElem_append_left (by simp;omega),List.getElem_append_right ae]
 have:=(cr _).1 (hd _ (List.getElem_mem (show i-a.length<d.length by omega)));rw[e];omega
theorem jR{s:ByteArray}{a d z:List UInt8}(h:s.data.toList=a ++ d ++ z):eF s a.length (a.length+d.length)=val d:=by
 unfold eF;rw[h,List.append_assoc,List.drop_left,Nat.add_sub_cancel_left,List.take_left]
theorem dU(s:ByteArray):s.size=s.data.toList.length:=by rw[Array.length_toList];rfl
theorem zS (q:Rat):∃ (mi fr:Bool) (a z:List UInt8),ql q=a ++ Lib.decDigits q.num.natAbs ++ z /\
    ((mi=true/\a=[45]/\q.num<0)∨(mi=false/\a=[]/\0<=q.num))/\((fr=true/\z=47 :: Lib.decDigits q.den/\q.den≠1)∨(fr=false/\z=[]/\q.den=1)):=by
 have e:∃ (mi:Bool) (a:List UInt8),zl q.num=a ++ Lib.decDigits q.num.natAbs/\((mi=true/\a=[45]/\q.num<0)∨(mi=false/\a=[]/\0<=q.num)):=by
  rcases Int.lt_or_le q.num 0 with h|h
  ·exact⟨true,[45],bZ h,Or.inl ⟨rfl,rfl,h⟩⟩
  ·exact⟨false,[],b7 h,Or.inr ⟨rfl,rfl,h⟩⟩
 obtain⟨mi,a,e1,e2⟩:=e;by_cases h:q.den=1
 ·exact⟨mi,false,a,[],by rw[dK h,e1,List.append_nil],e2,Or.inr ⟨rfl,rfl,h⟩⟩
 ·exact⟨mi,true,a,_,by rw[cY h,e1],e2,Or.inl ⟨rfl,rfl,h⟩⟩
theorem tg(n:Nat):(Lib.decDigits n).length<=9 ↔ n<1000000000 :=
 ⟨fun h=>a7 (k:=9) h,fun h=>bX (k:=9) af h⟩
theorem oT (q:Rat) {k:Nat} (w:World) (hq:QB k q) (hk:k<=9000) (r1 r2:Int) (r3:Bool) (hr:Hid ((jM q->r1=q.num/\r2=q.den/\r3=true)/\(¬ jM q->r1=0/\r2=0/\r3=false))) :
    Calls prog 85 #[.string (qs q)] w fun e w'=>e = .returned (.tuple #[.int .i64 r1,.int .i64 r2,.bool r3])/\w=w':=by
 have hl:=hq.len hk;obtain⟨mi,fr,a,z,e,hmi,hfr⟩:=zS q;have es:(qs q).data.toList=a ++ Lib.decDigits q.num.natAbs ++ z:=by rw[dZ,e]
 have hd:=bI q.num.natAbs;have hne:=eY q.num.natAbs;have hsz:(qs q).size=a.length+(Lib.decDigits q.num.natAbs).length+z.length:=by rw[dU,es];simp;omega
 have h0:0<(qs q).size:=ae;have hsv:=jR es;rw[dp] at hsv;have hal:a.length=if mi then 1 else 0:=by rcases hmi with⟨rfl,rfl,_⟩|⟨rfl,rfl,_⟩ <;> rfl
 have hz2:vI (qs q) (a.length+(Lib.decDigits q.num.natAbs).length+1) (qs q).size/\(fr=true->eF (qs q) (a.length+(Lib.decDigits q.num.natAbs).length+1) (qs q).size=q.den):=by
  rcases hfr with⟨rfl,rfl,_⟩|⟨rfl,rfl,_⟩
  ·have es2:(qs q).data.toList=(a ++ Lib.decDigits q.num.natAbs ++ [47]) ++ Lib.decDigits q.den ++ []:=by rw[es];simp
   have h1:=iP es2 (bI q.den);have h2:=jR es2;rw[dp] at h2;have e1:(a ++ Lib.decDigits q.num.natAbs ++ [47]).length=a.length+(Lib.decDigits q.num.natAbs).length+1:=by simp;omega
   rw[e1] at h1 h2;have e2:a.length+(Lib.decDigits q.num.natAbs).length+1+(Lib.decDigits q.den).length=(qs q).size:=by rw[hsz];simp;omega
   rw[e2] at h1 h2;exact⟨h1,fun _=>h2⟩
  ·exact⟨fun i h1 h2=>by rw[hsz] at h2;simp at h2;omega,fun h=>by cases h⟩
 have key:jM q ↔ (a.length+(Lib.decDigits q.num.natAbs).length<=a.length+9/\(fr=true->(qs q).size<=a.length+(Lib.decDigits q.num.natAbs).length+1+9)):=by
  unfold jM;rw[← tg,← tg,hsz];rcases hfr with⟨rfl,rfl,_⟩|⟨rfl,rfl,h1⟩
  ·simp;omega
  ·simp only[h1,kn];simp
 refine xJ (qs q) a.length (a.length+(Lib.decDigits q.num.natAbs).length) mi fr w r1 r2 r3 hl h0 ?_ (iP es hd) ae ?_ hz2.1 (ai ⟨fun h=>?_,fun h=>hr.out.2 (fun e=>h (key.1 e))⟩)
 ·rcases hmi with⟨rfl,rfl,_⟩|⟨rfl,rfl,hn⟩
  ·refine Or.inl ⟨rfl,rfl,?_⟩;rw[bj _ 0 h0];simp only[es];rfl
  ·refine Or.inr ⟨rfl,rfl,?_⟩;obtain⟨_,h1,_⟩:=iP es hd 0 (by simp) (by simp;omega);omega
 ·rcases hfr with⟨rfl,rfl,_⟩|⟨rfl,rfl,_⟩
  ·refine Or.inl ⟨rfl,by rw[hsz];simp,?_⟩;rw[bj _ _ (by rw[hsz];simp)];simp only[es];rw[List.getElem_append_right (by simp)];simp
  ·exact Or.inr ⟨rfl,by rw[hsz];simp⟩
 ·obtain⟨g1,g2,g3⟩:=hr.out.1 (key.2 h);refine⟨?_,?_,g3⟩
  ·rw[g1,hsv];rcases hmi with⟨rfl,rfl,hn⟩|⟨rfl,rfl,hn⟩ <;> simp <;> omega
  ·rw[g2];rcases hfr with⟨rfl,rfl,_⟩|⟨rfl,rfl,h1⟩
   ·rw[hz2.2 rfl];rfl
   ·simp[h1]
theorem ch (q:Rat) (w:World) (h:jM q) :
    Calls prog 85 #[.string (qs q)] w fun e w'=>e = .returned (.tuple #[.int .i64 q.num,.int .i64 q.den,.bool true])/\w=w' :=
 oT q w (k:=9) ⟨h.1,h.2⟩ af _ _ _ (ai ⟨fun _=>⟨rfl,rfl,rfl⟩,fun h'=>absurd h h'⟩)
theorem fG (q:Rat) {k:Nat} (w:World) (hq:QB k q) (hk:k<=9000) (h:¬ jM q) :
    Calls prog 85 #[.string (qs q)] w fun e w'=>e = .returned (.tuple #[.int .i64 0,.int .i64 0,.bool false])/\w=w' :=
 oT q w hq hk _ _ _ (ai ⟨fun h'=>absurd h' h,fun _=>⟨rfl,rfl,rfl⟩⟩)
theorem bV{s:ByteArray}{t:ByteArray}(h:s=t):Ending.returned (.string s) = .returned (.string t):=by rw[h]
theorem B5 (n:Int) (d:Nat) (w:World) (g:Gd w) (hn:n.natAbs<=4000000000000000000) (hd:d≠0) (hd2:d<=4000000000000000000) :
    Calls prog 187 #[.int .i64 n,.int .i64 d] w (aD w (.string (qs (mkRat n d)))):=by
 have HN:=ai hn;have HD:=ai hd;have HD2:=ai hd2;have HG:=ai g;clear hn hd hd2 g;go_enter func187,ntmps187;go_wp2;go_loopw [5,6] (fun x y W=>∃ X Y:Int,x = .int .i64 X/\y = .int .i64 Y/\Int.gcd X Y=Int.gcd n d/\X.natAbs<=4000000000000000000/\Y.natAbs<=4000000000000000000/\Ext w W)
  (fun _ y _=>(intOf y).natAbs)
 case atStart=>exact⟨n,d,rfl,rfl,rfl,HN.o,by have:=HD2.o;omega,Ext.refl _⟩
 case round =>
  obtain⟨X,Y,rfl,rfl,hg,hX,hY,hx⟩:=hrel;have HGC:=ai hg;have HX:=ai hX;have HY:=ai hY;have x1:-4000000000000000000<=X:=ae;have x2:X<=4000000000000000000:=ae;have y1:-4000000000000000000<=Y:=ae;have y2:Y<=4000000000000000000:=ae;clear hg hX hY;by_cases h0:Y=0
  ·subst h0;have hf:Int.gcd n d=X.natAbs:=by rw[← HGC.o,Int.gcd_zero]
   obtain⟨G,hG⟩:∃ G:Nat,G=X.natAbs:=⟨_,rfl⟩
   rw[← hG] at hf;have hG0:G≠0:=by
    intro e;rw[e] at hf;exact absurd hf (Int.gcd_ne_zero_right (by have:=HD.o;omega))
   have hdv:(G:Int)∣n:=by rw[← hf];exact Int.gcd_dvd_left _ _
   have eq:=rX (n:=n) (d:=d) (g:=G) HD.o hf;have hGd:G<=d:=by rw[← hf];have:=Int.gcd_le_natAbs_right n (b:=(d:Int)) (by have:=HD.o;omega);simpa using this
   have HF:=ai hf;have HEQ:=ai eq;have HDV:=ai hdv;have HGE:=ai hG;obtain⟨N',hN'⟩:∃ N',N'=n.tdiv G:=⟨_,rfl⟩
   obtain⟨D',hD'⟩:∃ D',D'=d / G:=⟨_,rfl⟩
   have hNa:N'.natAbs<=4000000000000000000:=by
    rw[hN',Int.natAbs_tdiv];exact Nat.le_trans (Nat.div_le_self _ _) HN.o
   have hDa:D'<=4000000000000000000:=by rw[hD'];exact Nat.le_trans (Nat.div_le_self _ _) HD2.o
   have n1:-4000000000000000000<=N':=ae;have n2:N'<=4000000000000000000:=ae;have d2:(D':Int)<=4000000000000000000:=ae;have q1:IntKind.i64.wrap (n.tdiv G)=N':=by rw[← hN'];exact IntWalk.i64_in _ ae
   have q2:(d:Int) / (G:Int)=(D':Int):=by rw[hD'];simp
   have q3:(d:Int).tdiv (G:Int)=(D':Int):=by rw[hD'];rfl
   have q4:IntKind.i64.wrap (D':Int)=(D':Int):=IntWalk.i64_in _ ae;rw[← hN',← hD'] at HEQ;have HND:=ai (And.intro hN' hD');have gpos:1<=(G:Int):=ae;have hne:¬ (G:Int)=0:=ae;have hne2:¬ G=0:=hG0;clear hf eq hdv hG hN' hD' hNa hDa hG0 hGd;by_cases hneg:X<0
   ·have eX:-X=(G:Int):=by have:=HGE.o;omega
    by_cases h1:D'=1
    ·subst h1;have e1:(⟨(eV N' 1).toArray⟩:ByteArray)=zs N':=rfl;have E1:=ai e1;clear e1;go_wp2;go_region
     all_goals
      go_wp2_with (go_at_call 193;refine cto (gv N' ae ae _ (HG.o.ext hx.drew)) fun w3 e3=>?_);go_ret;exact⟨bV (by unfold qs;rw[HEQ.o];rfl),hx.drew.trans e3⟩
    ·have h1':¬ (D':Int)=1:=ae;have e1:=jE N' D';have s1:(zs N').size<=100:=by
      rw[dj];have:=eC (n:=N') (k:=19) af ae;omega
     have s2:(zs (D':Int)).size<=100:=by
      rw[dj];have:=eC (n:=(D':Int)) (k:=19) af ae;omega
     have e2:qs (mkRat n d)=zs N' ++ (⟨#[47]⟩:ByteArray) ++ zs (D':Int):=by
      rw[e1];unfold qs;rw[HEQ.o];unfold eV;rw[if_neg h1]
     have E2:=ai e2;clear e1 e2 h1;go_wp2;go_region
     all_goals
      go_wp2_with (first
       | (go_at_call 193;((with_reducible refine(gv N' ae ae wr.drew (HG.o.ext hx.drew)).mono ?_);rintro e w3 ⟨rfl,e3⟩))
       | (go_at_call 193;refine cto (gv (D':Int) ae ae _ (HG.o.ext (hx.drew.trans e3))) fun w4 e4=>?_))
      go_ret;exact⟨bV E2.out.symm,(hx.drew.trans e3).trans e4⟩
   ·obtain rfl:X=(G:Int):=by have:=HGE.o;omega
    by_cases h1:D'=1
    ·subst h1;have e1:(⟨(eV N' 1).toArray⟩:ByteArray)=zs N':=rfl;have E1:=ai e1;clear e1;go_wp2;go_region
     all_goals
      go_wp2_with (go_at_call 193;refine cto (gv N' ae ae _ (HG.o.ext hx.drew)) fun w3 e3=>?_);go_ret;exact⟨bV (by unfold qs;rw[HEQ.o];rfl),hx.drew.trans e3⟩
    ·have h1':¬ (D':Int)=1:=ae;have e1:=jE N' D';have s1:(zs N').size<=100:=by
      rw[dj];have:=eC (n:=N') (k:=19) af ae;omega
     have s2:(zs (D':Int)).size<=100:=by
      rw[dj];have:=eC (n:=(D':Int)) (k:=19) af ae;omega
     have e2:qs (mkRat n d)=zs N' ++ (⟨#[47]⟩:ByteArray) ++ zs (D':Int):=by
      rw[e1];unfold qs;rw[HEQ.o];unfold eV;rw[if_neg h1]
     have E2:=ai e2;clear e1 e2 h1;go_wp2;go_region
     all_goals
      go_wp2_with (first
       | (go_at_call 193;((with_reducible refine(gv N' ae ae wr.drew (HG.o.ext hx.drew)).mono ?_);rintro e w3 ⟨rfl,e3⟩))
       | (go_at_call 193;refine cto (gv (D':Int) ae ae _ (HG.o.ext (hx.drew.trans e3))) fun w4 e4=>?_))
      go_ret;exact⟨bV E2.out.symm,(hx.drew.trans e3).trans e4⟩
  ·have hs:=sN X Y;have hm:=Int.natAbs_tmod X Y;have hlt:=Nat.mod_lt X.natAbs (show 0<Y.natAbs by omega);have HS:=ai hs;have HL:=ai (show(X.tmod Y).natAbs<Y.natAbs by omega);clear hs hm hlt;go_wp2;go_region
   all_goals
    go_roundw
    case rel=>(repeat apply Exists.intro);exact⟨⟨Y,X.tmod Y,rfl,rfl,by rw[HS.o,HGC.o],HY.o,by have:=HL.o;have:=HY.o;omega,hx.drew⟩,rfl⟩
    case measure=>have:=HL.o;simpa[intOf] using this
theorem cC{q:Rat}(h:q=0):((qs q).toList == [48])=true:=by rw[eG,qk.2 h];rfl
theorem aV{q:Rat}(h:q≠0):((qs q).toList == [48])=false:=by rw[eG];simpa using fun e=>h (qk.1 e)
theorem zQ{q:Rat}(h:q=1):((qs q).toList == [49])=true:=by rw[eG,uu.2 h];rfl
theorem j1{q:Rat}(h:q≠1):((qs q).toList == [49])=false:=by rw[eG];simpa using fun e=>h (uu.1 e)
theorem qi(q:Rat):0<(qs q).size:=by rw[j0];exact List.length_pos_iff.2 (Gj q)
theorem wN:∀ (l:List UInt8) (h:0<l.length),((l[0].toNat:Int)=45 ↔ l.head?=some 45)
 | b :: t,_=>by
  simp only[List.getElem_cons_zero,List.head?_cons,Option.some.injEq];constructor
  ·intro e;apply UInt8.toNat_inj.1;show b.toNat=45;omega
  ·intro e;rw[e];rfl
theorem gi(q:Rat)(h:0<(qs q).size):((qs q)[0].toNat:Int)=45 ↔ q.num<0:=by
 rw[← rY,bj _ 0 h,wN,dZ]
theorem qy{q:Rat}(h:q≠0):q.num≠0:=fun e=>h (Rat.num_eq_zero.1 e)
theorem aU(q:Rat)(w:World):Calls prog 31 #[.string (qs q)] w fun e w'=>e = .returned (.int .i64 q.num.sign)/\w=w':=by
 have hp:=qi q;have hp':(0:Int)<(qs q).size:=ae;by_cases h0:q=0
 ·have h1:=cC h0;have H:Hid (q.num.sign=0):=ai (by subst h0;rfl);clear h0;go_enter func31,ntmps31;go_wp2;go_ret;exact⟨by rw[H.o];rfl,rfl⟩
 ·have h1:=aV h0;by_cases hn:q.num<0
  ·have h2:=(gi q hp).2 hn;have H:Hid (q.num.sign=-1):=ai (Int.sign_eq_neg_one_of_neg hn);clear h0 hn;go_enter func31,ntmps31;go_wp2;go_ret;exact⟨by rw[H.o];rfl,rfl⟩
  ·have h2:¬ ((qs q)[0].toNat:Int)=45:=fun e=>hn ((gi q hp).1 e)
   have H:Hid (q.num.sign=1):=ai (Int.sign_eq_one_of_pos (by have:=qy h0;omega));clear h0 hn;go_enter func31,ntmps31;go_wp2;go_ret;exact⟨by rw[H.o];rfl,rfl⟩
theorem mW{q:Rat}(h:0<q.num):(⟨#[45]⟩:ByteArray) ++ qs q=qs (-q):=by
 apply cf;rw[dZ,uq h,ByteArray.data_append,Array.toList_append,dZ];rfl
theorem wi{q:Rat}(h:q.num<0):(qs q).extract 1 (qs q).size=qs (-q):=by
 apply cf;rw[ByteArray.data_extract,Array.toList_extract,dZ,dZ,j0,mY h];simp
theorem b8(q:Rat){k:Nat}(w:World)(hq:QB k q)(hk:k<=9000):Calls prog 62 #[.string (qs q)] w (aD w (.string (qs (-q)))):=by
 have hp:=qi q;have hl:=hq.len hk;have hp':(0:Int)<(qs q).size:=ae;have hp1:1<=(qs q).size:=hp;clear hq;by_cases h0:q=0
 ·have h1:=cC h0;have H:Hid (qs (-q)=qs q):=ai (by subst h0;rfl);clear h0;go_enter func62,ntmps62;go_wp2;go_ret;exact⟨bV H.o.symm,Ext.refl _⟩
 ·have h1:=aV h0;by_cases hn:q.num<0
  ·have h2:=(gi q hp).2 hn;have H:=ai (wi hn);clear h0 hn;go_enter func62,ntmps62;go_wp2;go_ret;exact⟨bV H.o,Ext.refl _⟩
  ·have h2:¬ ((qs q)[0].toNat:Int)=45:=fun e=>hn ((gi q hp).1 e)
   have H:=ai (mW (q:=q) (by have:=qy h0;omega));clear h0 hn;go_enter func62,ntmps62;go_wp2;go_ret;exact⟨bV H.o,Ext.refl _⟩
theorem rP (n D:Int) (d:Nat) (w:World) (g:Gd w) (hD:D=(d:Int)) (hn:n.natAbs<=4000000000000000000) (hd:d≠0) (hd2:d<=4000000000000000000) :
    Calls prog 187 #[.int .i64 n,.int .i64 D] w (aD w (.string (qs (mkRat n d)))):=by
 subst hD;exact B5 n d w g hn hd hd2
theorem gQ{a b:Int}(ha:a.natAbs<1000000000)(hb:b.natAbs<1000000000):-1000000000000000000<=a*b/\a*b<=1000000000000000000:=by
 have h:(a*b).natAbs<=1000000000*1000000000:=by rw[Int.natAbs_mul];exact Nat.mul_le_mul (Nat.le_of_lt ha) (Nat.le_of_lt hb)
 omega
theorem sk{a b:Nat}(ha:a<1000000000)(hb:b<1000000000):a*b<=1000000000000000000:=by
 have h:a*b<=1000000000*1000000000:=Nat.mul_le_mul (Nat.le_of_lt ha) (Nat.le_of_lt hb);omega
set_option maxHeartbeats 1000000 in
theorem uk(a b:Rat)(w:World)(g:Gd w)(ha:jM a)(hb:jM b)(ha0:a≠0)(hb0:b≠0):Calls prog 115 #[.string (qs a),.string (qs b)] w (aD w (.string (qs (a+b)))):=by
 have h1:=aV ha0;have h2:=aV hb0;have E:=ai (Rat.add_def' a b);have HA:=ai ha;have HB:=ai hb;have HG:=ai g;obtain⟨p1,p2⟩:=gQ (a:=a.num) (b:=(b.den:Int)) ha.1 (by rw[Int.natAbs_natCast];exact hb.2);obtain⟨p3,p4⟩:=gQ (a:=b.num) (b:=(a.den:Int)) hb.1 (by rw[Int.natAbs_natCast];exact ha.2);obtain⟨p5,p6⟩:=gQ (a:=(a.den:Int)) (b:=(b.den:Int)) (by rw[Int.natAbs_natCast];exact ha.2) (by rw[Int.natAbs_natCast];exact hb.2);have p7:=sk ha.2 hb.2;have P7:=ai p7;have P8:=ai (Nat.mul_ne_zero a.den_nz b.den_nz);have P9:=ai (Int.natCast_mul a.den b.den).symm;clear ha hb ha0 hb0 g p7;go_enter func115,ntmps115;go_wp2_with (first
  | (go_at_call 85;((with_reducible refine(ch a _ HA.o).mono ?_);rintro e w' ⟨rfl,rfl⟩))
  | (go_at_call 85;refine(ch b _ HB.o).mono ?_;rintro e w' ⟨rfl,rfl⟩)
  | (go_at_call 187;refine cto (rP (a.num*b.den+b.num*a.den) _ (a.den*b.den) _ HG.o P9.out ae P8.out (by have:=P7.out;omega)) fun w1 e1=>?_))
 go_ret;exact⟨bV (by rw[E.out]),e1⟩
theorem zN(a b:Rat){k m:Nat}(w:World)(g:Gd w)(qa:QB k a)(qb:QB m b)(hk:k<=3000)(hm:m<=3000)(h:¬ (jM a/\jM b))(ha0:a≠0)(hb0:b≠0):Calls prog 115 #[.string (qs a),.string (qs b)] w (aD w (.string (qs (a+b)))):=by
 have h1:=aV ha0;have h2:=aV hb0;have E:=ai (Rat.add_def' a b);have HG:=ai g;have QA:=ai qa;have QB':=ai qb;have P8:=ai (Nat.mul_ne_zero a.den_nz b.den_nz);have P9:Hid ((a.den:Int)*(b.den:Int)=((a.den*b.den:Nat):Int)):=ai (Int.natCast_mul a.den b.den).symm;have IBD:Hid (IB (k+m) ((a.den*b.den:Nat):Int)):=ai (by rw[← P9.out];exact qa.cq.mul qb.cq);clear ha0 hb0 g qa qb;by_cases hsa:jM a
 ·have hsb:¬ jM b:=fun e=>h ⟨hsa,e⟩
  have HA:=ai hsa;have HB:=ai hsb;clear h hsa hsb;go_enter func115,ntmps115;go_wp2_with (first
   | (go_at_call 85;((with_reducible refine(ch a _ HA.o).mono ?_);rintro e w' ⟨rfl,rfl⟩))
   | (go_at_call 85;refine(fG b _ QB'.out ae HB.o).mono ?_;rintro e w' ⟨rfl,rfl⟩)
   | (go_at_call 86;((with_reducible refine(bT a w QA.out ae).mono ?_);rintro e w1 ⟨rfl,e1⟩))
   | (go_at_call 86;refine cto (bT b w1 QB'.out ae) fun w2 e2=>?_;have e12:=Ext.trans e1 e2)
   | (go_at_call 88;((with_reducible refine(eB a.num b.den w2 (HG.o.ext e12) QA.out.cU QB'.out.cq ae ae).mono ?_);rintro e w3 ⟨rfl,e3⟩;have e13:=e12.trans e3))
   | (go_at_call 88;((with_reducible refine(eB b.num a.den w3 (HG.o.ext e13) QB'.out.cU QA.out.cq ae ae).mono ?_);rintro e w4 ⟨rfl,e4⟩;have e14:=e13.trans e4))
   | (go_at_call 189;refine cto (D4 _ _ _ (HG.o.ext e14) (QA.out.cU.mul QB'.out.cq) (QB'.out.cU.mul QA.out.cq) ae ae) fun w5 e5=>?_;have e15:=e14.trans e5)
   | (go_at_call 88;refine(eB (a.den:Int) b.den _ (HG.o.ext e15) QA.out.cq QB'.out.cq ae ae).mono ?_;rw[P9.out];rintro e w6 ⟨rfl,e6⟩;have e16:=e15.trans e6)
   | (go_at_call 188;refine cto (fQ _ (a.den*b.den) P8.out _ (HG.o.ext e16) ((QA.out.cU.mul QB'.out.cq).add (QB'.out.cU.mul QA.out.cq)) IBD.out ae ae) fun w7 e7=>?_))
  go_ret;exact⟨bV (by rw[E.out]),e16.trans e7⟩
 ·have HA:=ai hsa;clear h hsa;go_enter func115,ntmps115;go_wp2_with (first
   | (go_at_call 85;refine(fG a _ QA.out ae HA.o).mono ?_;rintro e w' ⟨rfl,rfl⟩)
   | (go_at_call 86;((with_reducible refine(bT a w QA.out ae).mono ?_);rintro e w1 ⟨rfl,e1⟩))
   | (go_at_call 86;refine cto (bT b w1 QB'.out ae) fun w2 e2=>?_;have e12:=Ext.trans e1 e2)
   | (go_at_call 88;((with_reducible refine(eB a.num b.den w2 (HG.o.ext e12) QA.out.cU QB'.out.cq ae ae).mono ?_);rintro e w3 ⟨rfl,e3⟩;have e13:=e12.trans e3))
   | (go_at_call 88;((with_reducible refine(eB b.num a.den w3 (HG.o.ext e13) QB'.out.cU QA.out.cq ae ae).mono ?_);rintro e w4 ⟨rfl,e4⟩;have e14:=e13.trans e4))
   | (go_at_call 189;refine cto (D4 _ _ _ (HG.o.ext e14) (QA.out.cU.mul QB'.out.cq) (QB'.out.cU.mul QA.out.cq) ae ae) fun w5 e5=>?_;have e15:=e14.trans e5)
   | (go_at_call 88;refine(eB (a.den:Int) b.den _ (HG.o.ext e15) QA.out.cq QB'.out.cq ae ae).mono ?_;rw[P9.out];rintro e w6 ⟨rfl,e6⟩;have e16:=e15.trans e6)
   | (go_at_call 188;refine cto (fQ _ (a.den*b.den) P8.out _ (HG.o.ext e16) ((QA.out.cU.mul QB'.out.cq).add (QB'.out.cU.mul QA.out.cq)) IBD.out ae ae) fun w7 e7=>?_))
  go_ret;exact⟨bV (by rw[E.out]),e16.trans e7⟩
theorem cX(a b:Rat){k m:Nat}(w:World)(g:Gd w)(qa:QB k a)(qb:QB m b)(hk:k<=3000)(hm:m<=3000):Calls prog 115 #[.string (qs a),.string (qs b)] w (aD w (.string (qs (a+b)))):=by
 by_cases ha0:a=0
 ·have h1:=cC ha0;have E:Hid (qs (a+b)=qs b):=ai (by subst ha0;rw[Rat.zero_add]);clear ha0 qa qb;go_enter func115,ntmps115;go_wp2;go_ret;exact⟨bV E.out.symm,Ext.refl _⟩
 ·by_cases hb0:b=0
  ·have h1:=aV ha0;have h2:=cC hb0;have E:Hid (qs (a+b)=qs a):=ai (by subst hb0;rw[Rat.add_zero]);clear ha0 hb0 qa qb;go_enter func115,ntmps115;go_wp2;go_ret;exact⟨bV E.out.symm,Ext.refl _⟩
  ·by_cases h:jM a/\jM b
   ·exact uk a b w g h.1 h.2 ha0 hb0
   ·exact zN a b w g qa qb hk hm h ha0 hb0
set_option maxHeartbeats 1000000 in
theorem ue(a b:Rat)(w:World)(g:Gd w)(ha:jM a)(hb:jM b)(ha0:a≠0)(hb0:b≠0)(ha1:a≠1)(hb1:b≠1):Calls prog 116 #[.string (qs a),.string (qs b)] w (aD w (.string (qs (a*b)))):=by
 have h1:=aV ha0;have h2:=aV hb0;have h3:=j1 ha1;have h4:=j1 hb1;have E:=ai (Rat.mul_def' a b);have HA:=ai ha;have HB:=ai hb;have HG:=ai g;obtain⟨p1,p2⟩:=gQ (a:=a.num) (b:=b.num) ha.1 hb.1;obtain⟨p5,p6⟩:=gQ (a:=(a.den:Int)) (b:=(b.den:Int)) (by rw[Int.natAbs_natCast];exact ha.2) (by rw[Int.natAbs_natCast];exact hb.2);have p7:=sk ha.2 hb.2;have P7:=ai p7;have P8:=ai (Nat.mul_ne_zero a.den_nz b.den_nz);have P9:=ai (Int.natCast_mul a.den b.den).symm;clear ha hb ha0 hb0 ha1 hb1 g p7;go_enter func116,ntmps116;go_wp2_with (first
  | (go_at_call 85;((with_reducible refine(ch a _ HA.o).mono ?_);rintro e w' ⟨rfl,rfl⟩))
  | (go_at_call 85;refine(ch b _ HB.o).mono ?_;rintro e w' ⟨rfl,rfl⟩)
  | (go_at_call 187;refine cto (rP (a.num*b.num) _ (a.den*b.den) _ HG.o P9.out ae P8.out (by have:=P7.out;omega)) fun w1 e1=>?_))
 go_ret;exact⟨bV (by rw[E.out]),e1⟩
theorem zE(a b:Rat){k m:Nat}(w:World)(g:Gd w)(qa:QB k a)(qb:QB m b)(hk:k<=3000)(hm:m<=3000)(h:¬ (jM a/\jM b))(ha0:a≠0)(hb0:b≠0)(ha1:a≠1)(hb1:b≠1):Calls prog 116 #[.string (qs a),.string (qs b)] w (aD w (.string (qs (a*b)))):=by
 have h1:=aV ha0;have h2:=aV hb0;have h3:=j1 ha1;have h4:=j1 hb1;have E:=ai (Rat.mul_def' a b);have HG:=ai g;have QA:=ai qa;have QB':=ai qb;have P8:=ai (Nat.mul_ne_zero a.den_nz b.den_nz);have P9:Hid ((a.den:Int)*(b.den:Int)=((a.den*b.den:Nat):Int)):=ai (Int.natCast_mul a.den b.den).symm;have IBD:Hid (IB (k+m) ((a.den*b.den:Nat):Int)):=ai (by rw[← P9.out];exact qa.cq.mul qb.cq);clear ha0 hb0 ha1 hb1 g qa qb;by_cases hsa:jM a
 ·have hsb:¬ jM b:=fun e=>h ⟨hsa,e⟩
  have HA:=ai hsa;have HB:=ai hsb;clear h hsa hsb;go_enter func116,ntmps116;go_wp2_with (first
   | (go_at_call 85;((with_reducible refine(ch a _ HA.o).mono ?_);rintro e w' ⟨rfl,rfl⟩))
   | (go_at_call 85;refine(fG b _ QB'.out ae HB.o).mono ?_;rintro e w' ⟨rfl,rfl⟩)
   | (go_at_call 86;((with_reducible refine(bT a w QA.out ae).mono ?_);rintro e w1 ⟨rfl,e1⟩))
   | (go_at_call 86;refine cto (bT b w1 QB'.out ae) fun w2 e2=>?_;have e12:=Ext.trans e1 e2)
   | (go_at_call 88;((with_reducible refine(eB a.num b.num w2 (HG.o.ext e12) QA.out.cU QB'.out.cU ae ae).mono ?_);rintro e w5 ⟨rfl,e5⟩;have e15:=e12.trans e5))
   | (go_at_call 88;refine(eB (a.den:Int) b.den _ (HG.o.ext e15) QA.out.cq QB'.out.cq ae ae).mono ?_;rw[P9.out];rintro e w6 ⟨rfl,e6⟩;have e16:=e15.trans e6)
   | (go_at_call 188;refine cto (fQ _ (a.den*b.den) P8.out _ (HG.o.ext e16) (QA.out.cU.mul QB'.out.cU) IBD.out ae ae) fun w7 e7=>?_))
  go_ret;exact⟨bV (by rw[E.out]),e16.trans e7⟩
 ·have HA:=ai hsa;clear h hsa;go_enter func116,ntmps116;go_wp2_with (first
   | (go_at_call 85;refine(fG a _ QA.out ae HA.o).mono ?_;rintro e w' ⟨rfl,rfl⟩)
   | (go_at_call 86;((with_reducible refine(bT a w QA.out ae).mono ?_);rintro e w1 ⟨rfl,e1⟩))
   | (go_at_call 86;refine cto (bT b w1 QB'.out ae) fun w2 e2=>?_;have e12:=Ext.trans e1 e2)
   | (go_at_call 88;((with_reducible refine(eB a.num b.num w2 (HG.o.ext e12) QA.out.cU QB'.out.cU ae ae).mono ?_);rintro e w5 ⟨rfl,e5⟩;have e15:=e12.trans e5))
   | (go_at_call 88;refine(eB (a.den:Int) b.den _ (HG.o.ext e15) QA.out.cq QB'.out.cq ae ae).mono ?_;rw[P9.out];rintro e w6 ⟨rfl,e6⟩;have e16:=e15.trans e6)
   | (go_at_call 188;refine cto (fQ _ (a.den*b.den) P8.out _ (HG.o.ext e16) (QA.out.cU.mul QB'.out.cU) IBD.out ae ae) fun w7 e7=>?_))
  go_ret;exact⟨bV (by rw[E.out]),e16.trans e7⟩
theorem bD(a b:Rat){k m:Nat}(w:World)(g:Gd w)(qa:QB k a)(qb:QB m b)(hk:k<=3000)(hm:m<=3000):Calls prog 116 #[.string (qs a),.string (qs b)] w (aD w (.string (qs (a*b)))):=by
 by_cases ha0:a=0
 ·have h1:=cC ha0;have E:Hid (qs (a*b)=⟨#[48]⟩):=ai (by subst ha0;rw[Rat.zero_mul,bE]);clear ha0 qa qb;go_enter func116,ntmps116;go_wp2;go_ret;exact⟨bV E.out.symm,Ext.refl _⟩
 ·by_cases hb0:b=0
  ·have h1:=aV ha0;have h2:=cC hb0;have E:Hid (qs (a*b)=⟨#[48]⟩):=ai (by subst hb0;rw[Rat.mul_zero,bE]);clear ha0 hb0 qa qb;go_enter func116,ntmps116;go_wp2;go_ret;exact⟨bV E.out.symm,Ext.refl _⟩
  ·by_cases ha1:a=1
   ·have h1:=aV ha0;have h2:=aV hb0;have h3:=zQ ha1;have E:Hid (qs (a*b)=qs b):=ai (by subst ha1;rw[Rat.one_mul]);clear ha0 hb0 ha1 qa qb;go_enter func116,ntmps116;go_wp2;go_ret;exact⟨bV E.out.symm,Ext.refl _⟩
   ·by_cases hb1:b=1
    ·have h1:=aV ha0;have h2:=aV hb0;have h3:=j1 ha1;have h4:=zQ hb1;have E:Hid (qs (a*b)=qs a):=ai (by subst hb1;rw[Rat.mul_one]);clear ha0 hb0 ha1 hb1 qa qb;go_enter func116,ntmps116;go_wp2;go_ret;exact⟨bV E.out.symm,Ext.refl _⟩
    ·by_cases h:jM a/\jM b
     ·exact ue a b w g h.1 h.2 ha0 hb0 ha1 hb1
     ·exact zE a b w g qa qb hk hm h ha0 hb0 ha1 hb1
theorem gP(a b:Rat){k m:Nat}(w:World)(g:Gd w)(qa:QB k a)(qb:QB m b)(hk:k<=3000)(hm:m<=3000):Calls prog 117 #[.string (qs a),.string (qs b)] w (aD w (.string (qs (a-b)))):=by
 have E:=ai (Rat.sub_eq_add_neg a b);have QA:=ai qa;have QB':=ai qb;have HG:=ai g;clear qa qb g;go_enter func117,ntmps117;go_wp2_with (first
  | (go_at_call 62;refine cto (b8 b _ QB'.out ae) fun w1 e1=>?_)
  | (go_at_call 115;refine cto (cX a (-b) _ (HG.o.ext e1) QA.out QB'.out.neg hk hm) fun w2 e2=>?_))
 go_ret;exact⟨bV (by rw[E.out]),e1.trans e2⟩
theorem EN(b:Rat)(hb:b≠0):(⟨(eV (b.num.sign*b.den) b.num.natAbs).toArray⟩:ByteArray)=qs b⁻¹:=by
 unfold qs;rw[wk,Rat.num_inv,Rat.den_inv,if_neg (qy hb)]
theorem ou{b:Rat}(h:0<b.num):b.num.sign*b.den=b.den/\(b.num.natAbs:Int)=b.num:=by
 rw[Int.sign_eq_one_of_pos h,Int.one_mul];exact⟨rfl,ae⟩
theorem ow{b:Rat}(h:b.num<0):b.num.sign*b.den=-(b.den:Int)/\(b.num.natAbs:Int)=-b.num:=by
 rw[Int.sign_eq_neg_one_of_neg h];exact⟨ae,ae⟩
set_option maxHeartbeats 1000000 in
theorem kJ(a b:Rat){k m:Nat}(w:World)(g:Gd w)(qa:QB k a)(qb:QB m b)(hk:k<=3000)(hm:m<=3000)(hm1:1<=m)(hb0:b≠0):Calls prog 230 #[.string (qs a),.string (qs b)] w (aD w (.tuple #[.string (qs (a / b)),.int .i64 0])):=by
 have h1:=aV hb0;have hp:=qi b;have hp':(0:Int)<(qs b).size:=ae;have QA:=ai qa;have QB':=ai qb;have HG:=ai g;have HI:=ai (EN b hb0);have HD:=ai (Rat.div_def a b);have QI:=ai (qb.inv hm1);have IN:Hid (IB m b.num/\IB m (b.den:Int)):=ai ⟨qb.cU,qb.cq⟩;by_cases hn:b.num<0
 ·have h2:=(gi b hp).2 hn;obtain⟨p1,p2⟩:=ow hn;have P1:=ai p1;have P2:=ai p2;clear hb0 hn qa qb g p1 p2;go_enter func230,ntmps230;go_wp2_with (first
   | (go_at_call 86;refine cto (bT b _ QB'.out ae) fun w1 e1=>?_)
   | (go_at_call 248;((with_reducible refine(DR b.num _ (IN.out.1.len ae)).mono ?_);rw[← P2.out];rintro e w' ⟨rfl,rfl⟩))
   | (go_at_call 248;refine(DR (b.den:Int) _ (IN.out.2.len ae)).mono ?_;rw[← P1.out];rintro e w' ⟨rfl,rfl⟩)
   | (go_at_call 249;refine(nH _ _ _ (by rw[P1.out];exact IN.out.2.neg) (by rw[P2.out];exact IN.out.1.neg) ae ae).mono ?_;rw[HI.o];rintro e w' ⟨rfl,rfl⟩)
   | (go_at_call 116;refine cto (bD a b⁻¹ _ (HG.o.ext e1) QA.out QI.out hk hm) fun w2 e2=>?_))
  go_ret2;exact⟨by rw[HD.o];rfl,e1.trans e2⟩
 ·have h2:¬ ((qs b)[0].toNat:Int)=45:=fun e=>hn ((gi b hp).1 e)
  obtain⟨p1,p2⟩:=ou (b:=b) (by have:=qy hb0;omega);have P1:=ai p1;have P2:=ai p2;clear hb0 hn qa qb g p1 p2;go_enter func230,ntmps230;go_wp2_with (first
   | (go_at_call 86;refine(bT b _ QB'.out ae).mono ?_;rw[← P2.out,← P1.out];rintro e w1 ⟨rfl,e1⟩)
   | (go_at_call 249;refine(nH _ _ _ (by rw[P1.out];exact IN.out.2) (by rw[P2.out];exact IN.out.1) ae ae).mono ?_;rw[HI.o];rintro e w' ⟨rfl,rfl⟩)
   | (go_at_call 116;refine cto (bD a b⁻¹ _ (HG.o.ext e1) QA.out QI.out hk hm) fun w2 e2=>?_))
  go_ret2;exact⟨by rw[HD.o];rfl,e1.trans e2⟩
def dL(a b:Rat):Int:=if a<b then -1 else if a=b then 0 else 1
theorem oV(a b:Rat):dI (a.num*b.den) (b.num*a.den)=dL a b:=by
 unfold dI dL
 congr 1
 ·exact propext (Rat.lt_iff a b).symm
 ·congr 1
  exact propext Rat.eq_iff_mul_eq_mul.symm
theorem oU(a:Rat):dL a a=0:=by unfold dL;rw[if_neg Rat.lt_irrefl,if_pos rfl]
theorem zR{a b:Rat}(h:a=b):((qs a).toList == (qs b).toList)=true:=by subst h;exact beq_self_eq_true _
theorem um{a b:Rat}(h:a≠b):((qs a).toList == (qs b).toList)=false:=by
 rw[eG,eG];simpa using fun e=>h (qj e)
set_option maxHeartbeats 1000000 in
theorem mT(a b:Rat)(w:World)(ha:jM a)(hb:jM b)(hne:a≠b):Calls prog 27 #[.string (qs a),.string (qs b)] w (aD w (.int .i64 (dL a b))):=by
 have h1:=um hne;obtain⟨p1,p2⟩:=gQ (a:=a.num) (b:=(b.den:Int)) ha.1 (by rw[Int.natAbs_natCast];exact hb.2);obtain⟨p3,p4⟩:=gQ (a:=b.num) (b:=(a.den:Int)) hb.1 (by rw[Int.natAbs_natCast];exact ha.2);have HA:=ai ha;have HB:=ai hb;have hc:=oV a b;rcases Int.lt_trichotomy (a.num*b.den) (b.num*a.den) with h|h|h
 ·rw[ia h] at hc;have HC:=ai hc;clear hc ha hb hne;go_enter func27,ntmps27;go_wp2_with (first
   | (go_at_call 85;((with_reducible refine(ch a _ HA.o).mono ?_);rintro e w' ⟨rfl,rfl⟩))
   | (go_at_call 85;refine(ch b _ HB.o).mono ?_;rintro e w' ⟨rfl,rfl⟩))
  go_ret;exact⟨by rw[← HC.o];rfl,Ext.refl _⟩
 ·exact absurd (Rat.eq_iff_mul_eq_mul.2 h) hne
 ·rw[ib h] at hc;have HC:=ai hc;have h':¬ a.num*b.den<b.num*a.den:=ae;clear hc ha hb hne;go_enter func27,ntmps27;go_wp2_with (first
   | (go_at_call 85;((with_reducible refine(ch a _ HA.o).mono ?_);rintro e w' ⟨rfl,rfl⟩))
   | (go_at_call 85;refine(ch b _ HB.o).mono ?_;rintro e w' ⟨rfl,rfl⟩))
  go_ret;exact⟨by rw[← HC.o];rfl,Ext.refl _⟩
theorem qg(a b:Rat){k m:Nat}(w:World)(g:Gd w)(qa:QB k a)(qb:QB m b)(hk:k<=3000)(hm:m<=3000)(h:¬ (jM a/\jM b))(hne:a≠b):Calls prog 27 #[.string (qs a),.string (qs b)] w (aD w (.int .i64 (dL a b))):=by
 have h1:=um hne;have QA:=ai qa;have QB':=ai qb;have HG:=ai g;have HC:=ai (oV a b);clear qa qb g hne;by_cases hsa:jM a
 ·have hsb:¬ jM b:=fun e=>h ⟨hsa,e⟩
  have HA:=ai hsa;have HB:=ai hsb;clear h hsa hsb;go_enter func27,ntmps27;go_wp2_with (first
   | (go_at_call 85;((with_reducible refine(ch a _ HA.o).mono ?_);rintro e w' ⟨rfl,rfl⟩))
   | (go_at_call 85;refine(fG b _ QB'.out ae HB.o).mono ?_;rintro e w' ⟨rfl,rfl⟩)
   | (go_at_call 86;((with_reducible refine(bT a w QA.out ae).mono ?_);rintro e w1 ⟨rfl,e1⟩))
   | (go_at_call 86;refine cto (bT b w1 QB'.out ae) fun w2 e2=>?_;have e12:=Ext.trans e1 e2)
   | (go_at_call 88;((with_reducible refine(eB a.num b.den w2 (HG.o.ext e12) QA.out.cU QB'.out.cq ae ae).mono ?_);rintro e w3 ⟨rfl,e3⟩;have e13:=e12.trans e3))
   | (go_at_call 88;((with_reducible refine(eB b.num a.den w3 (HG.o.ext e13) QB'.out.cU QA.out.cq ae ae).mono ?_);rintro e w4 ⟨rfl,e4⟩;have e14:=e13.trans e4))
   | (go_at_call 87;refine(k7 _ _ _).mono ?_;rw[HC.o];rintro e w' ⟨rfl,rfl⟩))
  go_ret;exact⟨rfl,e14⟩
 ·have HA:=ai hsa;clear h hsa;go_enter func27,ntmps27;go_wp2_with (first
   | (go_at_call 85;refine(fG a _ QA.out ae HA.o).mono ?_;rintro e w' ⟨rfl,rfl⟩)
   | (go_at_call 86;((with_reducible refine(bT a w QA.out ae).mono ?_);rintro e w1 ⟨rfl,e1⟩))
   | (go_at_call 86;refine cto (bT b w1 QB'.out ae) fun w2 e2=>?_;have e12:=Ext.trans e1 e2)
   | (go_at_call 88;((with_reducible refine(eB a.num b.den w2 (HG.o.ext e12) QA.out.cU QB'.out.cq ae ae).mono ?_);rintro e w3 ⟨rfl,e3⟩;have e13:=e12.trans e3))
   | (go_at_call 88;((with_reducible refine(eB b.num a.den w3 (HG.o.ext e13) QB'.out.cU QA.out.cq ae ae).mono ?_);rintro e w4 ⟨rfl,e4⟩;have e14:=e13.trans e4))
   | (go_at_call 87;refine(k7 _ _ _).mono ?_;rw[HC.o];rintro e w' ⟨rfl,rfl⟩))
  go_ret;exact⟨rfl,e14⟩
theorem fJ(a b:Rat){k m:Nat}(w:World)(g:Gd w)(qa:QB k a)(qb:QB m b)(hk:k<=3000)(hm:m<=3000):Calls prog 27 #[.string (qs a),.string (qs b)] w (aD w (.int .i64 (dL a b))):=by
 by_cases hne:a=b
 ·have h1:=zR hne;have HC:Hid (dL a b=0):=ai (by subst hne;exact oU _);clear hne qa qb;go_enter func27,ntmps27;go_wp2;go_ret;exact⟨by rw[HC.o];rfl,Ext.refl _⟩
 ·by_cases h:jM a/\jM b
  ·exact mT a b w h.1 h.2 hne
  ·exact qg a b w g qa qb hk hm h hne
theorem Cm(a b:Rat):-1<=dL a b/\dL a b<=1:=by unfold dL;split <;> (try split) <;> omega
theorem Cl{a b:Rat}:dL a b<0 ↔ a<b:=by
 unfold dL;split
 ·rename_i h;simp[h]
 ·rename_i h;split <;> simp[h]
theorem wm{a b:Rat}:0<dL a b ↔ b<a:=by
 unfold dL;split
 ·rename_i h;simp;exact Rat.not_lt.2 (Rat.le_of_lt h)
 ·rename_i h;split
  ·rename_i h2;subst h2;simp
  ·rename_i h2;simp;exact Rat.lt_of_le_of_ne (Rat.not_lt.1 h) (Ne.symm h2)
def Gi(a b:Rat):Rat:=if b<a then b else a
def j2(a b:Rat):Rat:=if a<b then b else a
theorem uf(a b:Rat){k m:Nat}(w:World)(g:Gd w)(qa:QB k a)(qb:QB m b)(hk:k<=3000)(hm:m<=3000):Calls prog 109 #[.string (qs a),.string (qs b)] w (aD w (.string (qs (j2 a b)))):=by
 have HC:=ai (fJ b a w g qb qa hm hk);obtain⟨c,hc⟩:∃ c,c=dL b a:=⟨_,rfl⟩
 have HCC:=ai hc;by_cases h:a<b
 ·have h1:0<c:=by rw[hc];exact wm.2 h
  have E:Hid (qs (j2 a b)=qs b):=ai (by unfold j2;rw[if_pos h]);clear hc h qa qb;go_enter func109,ntmps109;go_wp2_with (go_at_call 27;refine HC.o.mono ?_;rw[← HCC.o];rintro e w1 ⟨rfl,e1⟩);go_ret;exact⟨bV E.out.symm,e1⟩
 ·have h1:¬ 0<c:=by rw[hc];exact fun e=>h (wm.1 e)
  have E:Hid (qs (j2 a b)=qs a):=ai (by unfold j2;rw[if_neg h]);clear hc h qa qb;go_enter func109,ntmps109;go_wp2_with (go_at_call 27;refine HC.o.mono ?_;rw[← HCC.o];rintro e w1 ⟨rfl,e1⟩);go_ret;exact⟨bV E.out.symm,e1⟩
theorem iU(n:Int)(h0:-9223372036854775808<=n)(h1:n<=9223372036854775807)(w:World)(g:Gd w):Calls prog 156 #[.int .i64 n] w (aD w (.string (qs (n:Rat)))):=by
 rw[jz];have H:=ai (And.intro h0 h1);clear h0 h1;go_enter func156,ntmps156;go_wp2_with (go_at_call 168;refine(uA n H.o.1 H.o.2 _ g).mono ?_;rintro e w' ⟨rfl,e1⟩);go_ret;exact⟨rfl,e1⟩
theorem DQ (n:Int) (d:Nat) (hd:d≠0) {k m:Nat} (w:World) (g:Gd w) (hn:IB k n) (hdb:IB m (d:Int)) (hk:k<=8000) (hm:m<=8000) :
    Calls prog 229 #[.string (zs n),.string (zs (d:Int))] w (aD w (.tuple #[.string (qs (mkRat n d)),.int .i64 0])):=by
 have HS:Hid ((d:Int).sign=1):=ai (Int.sign_eq_one_of_pos ae);have HN:=ai hn;have HD:=ai hdb;have HDD:=ai hd;clear hn hdb hd;go_enter func229,ntmps229;go_wp2_with (first
  | (go_at_call 164;refine(dJ _ _).mono ?_;rw[HS.o];rintro e w' ⟨rfl,rfl⟩)
  | (go_at_call 188;refine cto (fQ n d HDD.o _ g HN.o HD.o hk hm) fun w1 e1=>?_))
 go_ret2;exact⟨rfl,e1⟩
def iq(l:List UInt8):Prop:=∃ q:Rat,l=ql q/\(Lib.decDigits q.num.natAbs).length<=200/\(Lib.decDigits q.den).length<=200
theorem gh{l:List UInt8}(h:(47:UInt8) ∉ l):iq l ↔ bO l:=by
 constructor
 ·rintro⟨q,rfl,h1,h2⟩;by_cases hd:q.den=1
  ·exact⟨q.num,dK hd,h1⟩
  ·rw[cY hd] at h;simp at h
 ·rintro⟨n,rfl,h1⟩;exact⟨(n:Rat),(kN n).symm,by simpa using h1,by rw[Rat.den_intCast,kn];decide⟩
theorem E7(a:Int)(b:Nat)(hb:b≠0)(hg:Int.gcd a b=1):(mkRat a b).num=a/\(mkRat a b).den=b:=by
 have:=iE a b 1 hb hg;simpa using this
theorem oO {l x y:List UInt8} (hl:l=x ++ 47 :: y) (hx:(47:UInt8) ∉ x) :
    iq l ↔ ∃ (a:Int) (b:Nat),x=zl a/\y=zl (b:Int)/\(Lib.decDigits a.natAbs).length<=200/\(Lib.decDigits b).length<=200/\1<b/\a≠0/\Int.gcd a b=1:=by
 subst hl;constructor
 ·rintro⟨q,e,h1,h2⟩;by_cases hd:q.den=1
  ·rw[dK hd] at e;exact absurd (e▸cT q.num) (by simp)
  ·rw[cY hd] at e;obtain⟨e1,e2⟩:=iC hx (cT _) e;refine⟨q.num,q.den,e1,by rw[cW];exact e2,h1,h2,?_,?_,?_⟩
   ·have:=q.den_nz;omega
   ·intro h0;have:=Rat.num_eq_zero.1 h0;subst this;exact hd rfl
   ·exact q.reduced
 ·rintro⟨a,b,rfl,rfl,h1,h2,h3,h4,h5⟩;obtain⟨e1,e2⟩:=E7 a b ae h5;exact⟨mkRat a b,by rw[cY ae,e1,e2,cW],by rw[e1];exact h1,by rw[e2];exact h2⟩
theorem IB.qx{n:Int}(h:(Lib.decDigits n.natAbs).length<=200):IB 200 n:=⟨a7 h⟩
set_option maxHeartbeats 1000000 in
theorem mV (s x y:ByteArray) (sl:Bool) (w:World) (hc:∀ w,Calls prog 163 #[.string s,.string ⟨#[47]⟩] w (aD w (.tuple #[.string x,.string y,.bool sl]))) (hx:¬ bO x.data.toList) :
    Calls prog 102 #[.string s] w (aD w (.int .i64 2)):=by
 have HX:=ai hx;clear hx;go_enter func102,ntmps102;go_wp2_with (first
  | (go_at_call 163;refine cto (hc _) fun w1 e1=>?_)
  | (go_at_call 181;refine(dd x _ 2 ⟨fun h=>absurd h HX.o,fun _=>rfl⟩).mono ?_;rintro e w' ⟨rfl,rfl⟩))
 go_ret;exact⟨rfl,e1⟩
set_option maxHeartbeats 1000000 in
theorem qh (s x y:ByteArray) (w:World) (hc:∀ w,Calls prog 163 #[.string s,.string ⟨#[47]⟩] w (aD w (.tuple #[.string x,.string y,.bool false]))) (hx:bO x.data.toList) :
    Calls prog 102 #[.string s] w (aD w (.int .i64 0)):=by
 have HX:=ai hx;clear hx;go_enter func102,ntmps102;go_wp2_with (first
  | (go_at_call 163;refine cto (hc _) fun w1 e1=>?_)
  | (go_at_call 181;refine(dd x _ 0 ⟨fun _=>rfl,fun h=>absurd HX.o h⟩).mono ?_;rintro e w' ⟨rfl,rfl⟩))
 go_ret;exact⟨rfl,e1⟩
set_option maxHeartbeats 1000000 in
theorem uj (s x y:ByteArray) (w:World) (hc:∀ w,Calls prog 163 #[.string s,.string ⟨#[47]⟩] w (aD w (.tuple #[.string x,.string y,.bool true]))) (hx:bO x.data.toList) (hy:¬ bO y.data.toList) :
    Calls prog 102 #[.string s] w (aD w (.int .i64 2)):=by
 have HX:=ai hx;have HY:=ai hy;clear hx hy;go_enter func102,ntmps102;go_wp2_with (first
  | (go_at_call 163;refine cto (hc _) fun w1 e1=>?_)
  | (go_at_call 181;((with_reducible refine(dd x w1 0 ⟨fun _=>rfl,fun h=>absurd HX.o h⟩).mono ?_);rintro e w' ⟨rfl,rfl⟩))
  | (go_at_call 181;refine(dd y _ 2 ⟨fun h=>absurd h HY.o,fun _=>rfl⟩).mono ?_;rintro e w' ⟨rfl,rfl⟩))
 go_ret;exact⟨rfl,e1⟩
theorem ui (s:ByteArray) (a b:Int) (v:Int) (w:World) (g:Gd w) (hc:∀ w,Calls prog 163 #[.string s,.string ⟨#[47]⟩] w (aD w (.tuple #[.string (zs a),.string (zs b),.bool true])))
    (ha:(Lib.decDigits a.natAbs).length<=200) (hb:(Lib.decDigits b.natAbs).length<=200)
    (hv:(1<b/\a≠0/\Int.gcd a b=1->v=0)/\(¬ (1<b/\a≠0/\Int.gcd a b=1)->v=2)) :
    Calls prog 102 #[.string s] w (aD w (.int .i64 v)):=by
 have HA:=ai (IB.qx ha);have HB:=ai (IB.qx hb);have RA:Hid (bO (zs a).data.toList):=ai (by rw[bQ];exact jY.2 ha);have RB:Hid (bO (zs b).data.toList):=ai (by rw[bQ];exact jY.2 hb);have one:zs 1=⟨#[49]⟩:=fe;have HCC:Hid (∀ w,Calls prog 87 #[.string (zs b),.string ⟨#[49]⟩] w fun e w'=>e = .returned (.int .i64 (dI b 1))/\w=w'):=ai (fun w=>by have:=k7 b 1 w;rw[one] at this;exact this);clear one ha hb;obtain⟨c,hcc⟩:∃ c,c=dI b 1:=⟨_,rfl⟩
 have HC1:=ai hcc;by_cases h1:1<b
 ·have hc1:¬ c<=0:=by rw[hcc,ib h1];omega
  by_cases h2:a=0
  ·have hv2:=hv.2 (fun h=>h.2.1 h2);have HV:=ai hv2;have z1:=ky h2;clear hv hv2 hcc h1 h2;go_enter func102,ntmps102;go_wp2_with (first
    | (go_at_call 163;refine cto (hc _) fun w1 e1=>?_)
    | (go_at_call 181;((with_reducible refine(dd (zs a) w1 0 ⟨fun _=>rfl,fun h=>absurd RA.out h⟩).mono ?_);rintro e w' ⟨rfl,rfl⟩))
    | (go_at_call 181;refine(dd (zs b) _ 0 ⟨fun _=>rfl,fun h=>absurd RB.out h⟩).mono ?_;rintro e w' ⟨rfl,rfl⟩)
    | (go_at_call 87;refine(HCC.o _).mono ?_;rw[← HC1.o];rintro e w' ⟨rfl,rfl⟩))
   go_ret;exact⟨by rw[HV.o];rfl,e1⟩
  ·have z1:=fA h2;obtain⟨G,hG⟩:∃ G:Nat,G=Int.gcd a b:=⟨_,rfl⟩
   have HG:=ai hG;by_cases h3:(G:Int)=1
   ·have hv2:=hv.1 ⟨h1,h2,ae⟩;have HV:=ai hv2;have z3:=pG h3;have z4:=pF h3;clear hv hv2 hcc h1 h2 h3 hG;go_enter func102,ntmps102;go_wp2_with (first
     | (go_at_call 163;refine cto (hc _) fun w1 e1=>?_)
     | (go_at_call 181;((with_reducible refine(dd (zs a) w1 0 ⟨fun _=>rfl,fun h=>absurd RA.out h⟩).mono ?_);rintro e w' ⟨rfl,rfl⟩))
     | (go_at_call 181;refine(dd (zs b) _ 0 ⟨fun _=>rfl,fun h=>absurd RB.out h⟩).mono ?_;rintro e w' ⟨rfl,rfl⟩)
     | (go_at_call 87;refine(HCC.o _).mono ?_;rw[← HC1.o];rintro e w' ⟨rfl,rfl⟩)
     | (go_at_call 182;refine(jr a b _ (g.ext e1) HA.o HB.o af af).mono ?_;rw[← HG.o];rintro e w2 ⟨rfl,e2⟩))
    go_ret;exact⟨by rw[HV.o];rfl,e1.trans e2⟩
   ·have hv2:=hv.2 (fun h=>h3 (by have:=h.2.2;omega));have HV:=ai hv2;have z3:=lH h3;have z4:=mf h3;clear hv hv2 hcc h1 h2 h3 hG;go_enter func102,ntmps102;go_wp2_with (first
     | (go_at_call 163;refine cto (hc _) fun w1 e1=>?_)
     | (go_at_call 181;((with_reducible refine(dd (zs a) w1 0 ⟨fun _=>rfl,fun h=>absurd RA.out h⟩).mono ?_);rintro e w' ⟨rfl,rfl⟩))
     | (go_at_call 181;refine(dd (zs b) _ 0 ⟨fun _=>rfl,fun h=>absurd RB.out h⟩).mono ?_;rintro e w' ⟨rfl,rfl⟩)
     | (go_at_call 87;refine(HCC.o _).mono ?_;rw[← HC1.o];rintro e w' ⟨rfl,rfl⟩)
     | (go_at_call 182;refine(jr a b _ (g.ext e1) HA.o HB.o af af).mono ?_;rw[← HG.o];rintro e w2 ⟨rfl,e2⟩))
    go_ret;exact⟨by rw[HV.o];rfl,e1.trans e2⟩
 ·have hc1:c<=0:=by
   rw[hcc];by_cases h:b=1
   ·subst h;rw[lZ];omega
   ·rw[ia ae];omega
  have hv2:=hv.2 (fun h=>h1 h.1);have HV:=ai hv2;clear hv hv2 hcc h1;go_enter func102,ntmps102;go_wp2_with (first
   | (go_at_call 163;refine cto (hc _) fun w1 e1=>?_)
   | (go_at_call 181;((with_reducible refine(dd (zs a) w1 0 ⟨fun _=>rfl,fun h=>absurd RA.out h⟩).mono ?_);rintro e w' ⟨rfl,rfl⟩))
   | (go_at_call 181;refine(dd (zs b) _ 0 ⟨fun _=>rfl,fun h=>absurd RB.out h⟩).mono ?_;rintro e w' ⟨rfl,rfl⟩)
   | (go_at_call 87;refine(HCC.o _).mono ?_;rw[← HC1.o];rintro e w' ⟨rfl,rfl⟩))
  go_ret;exact⟨by rw[HV.o];rfl,e1⟩
theorem mU (s:ByteArray) (w:World) (g:Gd w) (v:Int) (hl:s.size<=1000000) (hv:(iq s.data.toList->v=0)/\(¬ iq s.data.toList->v=2)) :
    Calls prog 102 #[.string s] w (aD w (.int .i64 v)):=by
 rcases lj s.data.toList with hn|⟨x,y,hs,hx⟩
 ·have hc:=fun w=>ti s w hn
  by_cases h:bO s.data.toList
  ·rw[hv.1 ((gh hn).2 h)];exact qh s s _ w hc h
  ·rw[hv.2 (fun e=>h ((gh hn).1 e))];exact mV s s _ false w hc h
 ·have hc:=fun w=>Bf s x y w hs hx hl
  have hq:=oO hs hx;by_cases h1:bO x
  ·by_cases h2:bO y
   ·obtain⟨a,rfl,ha⟩:=h1;obtain⟨b,rfl,hb⟩:=h2;refine ui s a b v w g hc ha hb ⟨fun⟨k1,k2,k3⟩=>hv.1 (hq.2 ⟨a,b.natAbs,rfl,?_,ha,hb,ae,k2,?_⟩),fun hh=>hv.2 (fun e=>hh ?_)⟩
    ·rw[show((b.natAbs:Nat):Int)=b by omega]
    ·rw[show((b.natAbs:Nat):Int)=b by omega];exact k3
    ·obtain⟨a',b',e1,e2,_,_,k1,k2,k3⟩:=hq.1 e;have:=gK e1;have:=gK e2
     subst_vars
     exact⟨ae,k2,k3⟩
   ·rw[hv.2 (fun e=>by obtain⟨a,b,e1,e2,_,h4,_⟩:=hq.1 e;exact h2 ⟨b,e2,by simpa using h4⟩)];exact uj s ⟨x.toArray⟩ ⟨y.toArray⟩ w hc (by simpa using h1) (by simpa using h2)
  ·rw[hv.2 (fun e=>by obtain⟨a,b,e1,e2,h3,_⟩:=hq.1 e;exact h1 ⟨a,e1,h3⟩)];exact mV s ⟨x.toArray⟩ ⟨y.toArray⟩ true w hc (by simpa using h1)
theorem xE (s t:ByteArray) (w:World) (h:0<s.size) (h2:(s[0].toNat:Int)=45) (ht:s.extract 1 s.size=t) :
    Calls prog 149 #[.string s] w (aD w (.tuple #[.bool true,.string t])):=by
 have hp':(0:Int)<s.size:=ae;have hp1:1<=s.size:=h;have HT:=ai ht;clear ht;go_enter func149,ntmps149;go_wp2;go_region
 all_goals
  go_wp2;go_ret2;exact⟨by rw[← HT.o];rfl,(Ext.refl _).drew⟩
theorem xD (s:ByteArray) (w:World) (h:0<s.size) (h2:¬ (s[0].toNat:Int)=45) :
    Calls prog 149 #[.string s] w (aD w (.tuple #[.bool false,.string s])):=by
 have hp':(0:Int)<s.size:=ae;go_enter func149,ntmps149;go_wp2;go_ret2;exact⟨rfl,Ext.refl _⟩
theorem rI (s:ByteArray) (w:World) (h:¬ (0:Int)<s.size) :
    Calls prog 149 #[.string s] w (aD w (.tuple #[.bool false,.string s])):=by
 go_enter func149,ntmps149;go_wp2;go_ret2;exact⟨rfl,Ext.refl _⟩
theorem kG(s:ByteArray)(w:World):Calls prog 149 #[.string s] w (aD w (.tuple #[.bool (Lib.hasPrefix s.data.toList [45]),.string ⟨(Lib.trimPrefix s.data.toList [45]).toArray⟩])):=by
 have hsz:=dU s;rcases gN s.data.toList with⟨t,e,e1,e2⟩|⟨h0,e1,e2⟩
 ·rw[e1,e2];have h:0<s.size:=by rw[hsz,e];simp
  refine xE s _ w h ?_ ?_
  ·rw[bj _ 0 h];simp only[e];rfl
  ·apply cf;rw[ByteArray.data_extract,Array.toList_extract,e,hsz,e];simp
 ·rw[e1,e2,← Bn s];by_cases h:0<s.size
  ·refine xD s w h ?_;rw[bj _ 0 h,wN];intro e;cases hl:s.data.toList with
   | nil=>rw[hl] at e;simp at e
   | cons b t=>rw[hl] at e;simp at e;subst e;exact h0 t hl
  ·exact rI s w ae
theorem aE(n:Int)(w:World):Calls prog 149 #[.string (zs n)] w (aD w (.tuple #[.bool (decide (n<0)),.string (zs (n.natAbs:Int))])):=by
 have:=kG (zs n) w;rw[bQ,uL,pQ] at this;rw[show zs (n.natAbs:Int)=⟨(Lib.decDigits n.natAbs).toArray⟩ by unfold zs;rw[cW]];exact this
theorem Di(n:Int)(w:World):Calls prog 144 #[.string (zs n)] w (aD w (.int .i64 n.sign)):=by
 obtain⟨B,hB⟩:∃ B,B=decide (n<0):=⟨_,rfl⟩
 have HB:=ai hB;rcases Int.lt_trichotomy n 0 with h|h|h
 ·have hb:B=true:=by rw[hB];simpa using h
  subst hb;have H:Hid (n.sign=-1):=ai (Int.sign_eq_neg_one_of_neg h);clear hB h;go_enter func144,ntmps144;go_wp2_with (go_at_call 149;refine(aE n _).mono ?_;rw[← HB.o];rintro e w1 ⟨rfl,e1⟩);go_ret;exact⟨by rw[H.o];rfl,e1⟩
 ·have hb:B=false:=by rw[hB];simp;omega
  subst hb;have h1:=ky h;have H:Hid (n.sign=0):=ai (by rw[h];rfl);clear hB h;go_enter func144,ntmps144;go_wp2_with (go_at_call 149;refine(aE n _).mono ?_;rw[← HB.o];rintro e w1 ⟨rfl,e1⟩);go_ret;exact⟨by rw[H.o];rfl,e1⟩
 ·have hb:B=false:=by rw[hB];simp;omega
  subst hb;have h1:=fA (n:=n) ae;have H:Hid (n.sign=1):=ai (Int.sign_eq_one_of_pos h);clear hB h;go_enter func144,ntmps144;go_wp2_with (go_at_call 149;refine(aE n _).mono ?_;rw[← HB.o];rintro e w1 ⟨rfl,e1⟩);go_ret;exact⟨by rw[H.o];rfl,e1⟩
theorem Fy(n:Int)(w:World)(hl:(zl n).length<=100000):Calls prog 261 #[.string (zs n)] w (aD w (.string (zs (-n)))):=by
 obtain⟨B,hB⟩:∃ B,B=decide (n<0):=⟨_,rfl⟩
 have HB:=ai hB;have hl2:(zs (n.natAbs:Int)).size<=100000:=by
  rw[bh];have:=xw n;rcases Int.lt_or_le n 0 with h|h
  ·rw[bZ h] at hl;simp at hl;omega
  ·rw[b7 h] at hl;exact hl
 rcases Int.lt_trichotomy n 0 with h|h|h
 ·have hb:B=true:=by rw[hB];simpa using h
  subst hb;have H:Hid ((n.natAbs:Int)=-n):=ai ae;clear hB h;go_enter func261,ntmps261;go_wp2_with (go_at_call 149;refine(aE n _).mono ?_;rw[← HB.o];rintro e w1 ⟨rfl,e1⟩);go_ret;exact⟨a8 H.o,e1⟩
 ·have hb:B=false:=by rw[hB];simp;omega
  subst hb;have h1:=ky h;have H:Hid ((n.natAbs:Int)=-n):=ai ae;clear hB h;go_enter func261,ntmps261;go_wp2_with (go_at_call 149;refine(aE n _).mono ?_;rw[← HB.o];rintro e w1 ⟨rfl,e1⟩);go_ret;exact⟨a8 H.o,e1⟩
 ·have hb:B=false:=by rw[hB];simp;omega
  subst hb;have h1:=fA (n:=n) ae;have H:Hid ((⟨#[45]⟩:ByteArray) ++ zs (n.natAbs:Int)=zs (-n)):=ai (by rw[show(n.natAbs:Int)=n by omega];exact jt h);clear hB h;go_enter func261,ntmps261;go_wp2_with (go_at_call 149;refine(aE n _).mono ?_;rw[← HB.o];rintro e w1 ⟨rfl,e1⟩);go_ret;exact⟨bV H.o,e1⟩
theorem A4(n:Int)(w:World):Calls prog 218 #[.string (zs n)] w (aD w (.string (zs (n.natAbs:Int)))):=by
 go_enter func218,ntmps218;go_wp2_with (go_at_call 149;refine cto (aE n _) fun w1 e1=>?_);go_ret;exact⟨rfl,e1⟩
theorem nL(n:Int)(h0:-9223372036854775808<=n)(h1:n<=9223372036854775807)(w:World)(g:Gd w):Calls prog 119 #[.int .i64 n] w (aD w (.string (zs n))):=by
 have H:=ai (And.intro h0 h1);clear h0 h1;go_enter func119,ntmps119;go_wp2_with (go_at_call 193;refine(gv n H.o.1 H.o.2 _ g).mono ?_;rintro e w' ⟨rfl,e1⟩);go_ret;exact⟨rfl,e1⟩
theorem Cj(d:Int)(h0:0<=d)(h9:d<=9):(-9223372036854775808+d).tdiv 10<=-922337203685477579:=by
 rw[show(-9223372036854775808+d)=-(9223372036854775808-d) by omega,Int.neg_tdiv,Int.tdiv_eq_ediv_of_nonneg ae];omega
theorem zP(d:Int)(h0:0<=d)(h9:d<=9):-9223372036854775808<=(-9223372036854775808+d).tdiv 10:=by
 rw[show(-9223372036854775808+d)=-(9223372036854775808-d) by omega,Int.neg_tdiv,Int.tdiv_eq_ediv_of_nonneg ae];omega
theorem nK(n:Int)(w:World)(hl:n.natAbs<1000000000000000000):Calls prog 150 #[.string (zs n)] w (aD w (.tuple #[.int .i64 n,.bool true])):=by
 obtain⟨B,hB⟩:∃ B,B=decide (n<0):=⟨_,rfl⟩
 have HB:=ai hB;obtain⟨s,hs⟩:∃ s,s=zs (n.natAbs:Int):=⟨_,rfl⟩
 have HS:=ai hs;have hsl:s.data.toList=[] ++ Lib.decDigits n.natAbs ++ []:=by rw[hs,bQ,cW];simp
 have hd:=iP hsl (bI _);have hsv:=jR hsl;have hsz:s.size=(Lib.decDigits n.natAbs).length:=by rw[hs,bh]
 simp only[List.length_nil,Nat.zero_add] at hd hsv;rw[← hsz] at hd hsv;rw[dp] at hsv;have hs18:s.size<=18:=by rw[hsz];exact bX (k:=18) af hl
 have HD:=ai hd;have HV:=ai hsv;clear hs hsl hd hsv hsz hB;go_enter func150,ntmps150;go_wp2_with (go_at_call 149;refine(aE n _).mono ?_;rw[← HB.o,← HS.o];rintro e w1 ⟨rfl,e1⟩);go_loop [6,7] (fun m i=>∃ (k N:Nat),k<=s.size/\i = .int .i64 k/\m = .int .i64 (-(N:Int))/\N<1000000000000000000/\Hid (N=eF s 0 k)) (fun _ i=>s.size-(intOf i).toNat)
 case atStart=>exact⟨0,0,Nat.zero_le _,rfl,rfl,ae,ai (cB s 0).symm⟩
 case round =>
  obtain⟨k,N,hk,rfl,rfl,hN,HN⟩:=hrel;by_cases hlt:k<s.size
  ·obtain⟨_,d1,d2⟩:=HD.o k (Nat.zero_le _) hlt;have hst:=eE s 0 k (Nat.zero_le _) hlt;have hb:N<100000000000000000:=by
    rw[HN.o];have h1:=lI s 0 s.size k HD.o (Nat.zero_le _) hk;have h2:10 ^ (k-0)<=10 ^ 17:=Nat.pow_le_pow_right af ae;exact Nat.lt_of_lt_of_le h1 h2
   have HST:=ai hst;have q1:=Cj ((s[k].toNat:Int)-48) ae ae;have q2:=zP ((s[k].toNat:Int)-48) ae ae;obtain⟨q,hq⟩:∃ q,q=(-9223372036854775808+((s[k].toNat:Int)-48)).tdiv 10:=⟨_,rfl⟩
   clear hst;go_wp2;go_round
   case rel=>exact⟨k+1,10*N+(s[k].toNat-48),ae,by go_num,by simp only[Value.int.injEq,true_and];omega,ae,ai (by rw[HST.o,HN.o])⟩
   case measure=>simp[intOf];omega
  ·obtain rfl:s.size=k:=ae;have hN':N=n.natAbs:=by rw[HN.o,HV.o]
   have HN':=ai hN';clear hN';cases B
   ·have hn:¬ n<0:=of_decide_eq_false HB.o.symm;have E:Hid ((N:Int)=n):=ai (by have:=HN'.o;omega);clear hn;go_wp2;go_ret2;exact⟨by rw[← E.out];simp,e1⟩
   ·have hn:n<0:=of_decide_eq_true HB.o.symm;have E:Hid (-(N:Int)=n):=ai (by have:=HN'.o;omega);clear hn;go_wp2;go_ret2;exact⟨by rw[← E.out];rfl,e1⟩
theorem aT(n:Int)(w:World)(h:(Lib.decDigits n.natAbs).length<=17):Calls prog 219 #[.string (zs n)] w (aD w (.tuple #[.int .i64 n,.bool true])):=by
 have hs:¬ (17:Int)<(zs (n.natAbs:Int)).size:=by rw[bh];omega
 have H:=ai (a7 h);clear h;go_enter func219,ntmps219;go_wp2_with (first
  | (go_at_call 149;refine cto (aE n _) fun w1 e1=>?_)
  | (go_at_call 150;refine cto (nK n _ (Nat.lt_of_lt_of_le H.o af)) fun w2 e2=>?_))
 go_ret2;exact⟨rfl,e1.trans e2⟩
theorem aQ(n:Int)(w:World)(h:¬ (Lib.decDigits n.natAbs).length<=17):Calls prog 219 #[.string (zs n)] w (aD w (.tuple #[.int .i64 0,.bool false])):=by
 have hs:(17:Int)<(zs (n.natAbs:Int)).size:=by rw[bh];omega
 go_enter func219,ntmps219;go_wp2_with (first
  | (go_at_call 149;refine cto (aE n _) fun w1 e1=>?_))
 go_ret2;exact⟨rfl,e1⟩
theorem Bl (a s:ByteArray) (mi v:Bool) (w:World) (hc:∀ w,Calls prog 149 #[.string a] w (aD w (.tuple #[.bool mi,.string s]))) (hs:s.size<=1000000)
    (hv:Hid ((¬ Dg s->v=false)/\(Dg s->(s.size=0->v=false)/\(∀ h:0<s.size,((s[0].toNat:Int)=48->(mi=true∨1<s.size)->v=false)/\((s[0].toNat:Int)=48->mi=false->s.size<=1->v=true)/\(¬ (s[0].toNat:Int)=48->v=true))))) :
    Calls prog 216 #[.string a] w (aD w (.bool v)):=by
 go_enter func216,ntmps216;go_wp2_with (go_at_call 149;refine cto (hc _) fun w1 e1=>?_);go_loop [5] (fun i=>∃ k:Nat,k<=s.size/\i = .int .i64 k/\Hid (∀ j (h:j<s.size),j<k->48<=(s[j].toNat:Int)/\(s[j].toNat:Int)<=57)) (fun i=>s.size-(intOf i).toNat)
 case atStart=>exact⟨0,Nat.zero_le _,rfl,ai (fun j h h'=>ae)⟩
 case round =>
  obtain⟨k,hk,rfl,hdg⟩:=hrel;by_cases hlt:k<s.size
  ·rcases Int.lt_or_le (s[k].toNat:Int) 48 with hd|hd
   ·have e2:v=false:=hv.out.1 (fun h=>by have:=(h k hlt).1;omega);have E2:=ai e2;clear e2;go_wp2;go_ret;exact⟨by rw[E2.out];rfl,e1⟩
   ·rcases Int.lt_or_le 57 (s[k].toNat:Int) with hd2|hd2
    ·have e2:v=false:=hv.out.1 (fun h=>by have:=(h k hlt).2;omega);have E2:=ai e2;clear e2;go_wp2;go_ret;exact⟨by rw[E2.out];rfl,e1⟩
    ·have HD:=ai (And.intro hd hd2);go_wp2;go_round
     case rel=>exact⟨k+1,ae,by go_num,ai (fun j h h'=>by
      by_cases e:j=k
      ·subst e;exact HD.o
      ·exact hdg.out j h ae)⟩
     case measure=>simp[intOf];omega
  ·have hall:=hv.out.2 (fun j h=>hdg.out j h ae);have HALL:=ai hall;clear hall;by_cases h0:s.size=0
   ·have E2:=ai (HALL.o.1 h0);have h0':(s.size:Int)=0:=ae;clear h0;go_wp2;go_ret;exact⟨by rw[E2.out];rfl,e1⟩
   ·have h1:0<s.size:=ae;have h1':(0:Int)<s.size:=ae;have h0':¬ (s.size:Int)=0:=ae;by_cases h48:(s[0].toNat:Int)=48
    ·cases mi
     ·by_cases h2:1<s.size
      ·have E2:=ai ((HALL.o.2 h1).1 h48 (Or.inr h2));have h2':(1:Int)<s.size:=ae;go_wp2;go_ret;exact⟨by rw[E2.out];rfl,e1⟩
      ·have E2:=ai ((HALL.o.2 h1).2.1 h48 rfl ae);have h2':¬ (1:Int)<s.size:=ae;go_wp2;go_ret;exact⟨by rw[E2.out];rfl,e1⟩
     ·have E2:=ai ((HALL.o.2 h1).1 h48 (Or.inl rfl));go_wp2;go_ret;exact⟨by rw[E2.out];rfl,e1⟩
    ·have E2:=ai ((HALL.o.2 h1).2.2 h48);go_wp2;go_ret;exact⟨by rw[E2.out];rfl,e1⟩
def oe(l:List UInt8):Prop:=∃ n:Int,l=zl n
theorem pB (l t:List UInt8) (mi:Bool) (ht:Lib.trimPrefix l [45]=t) (hm:Lib.hasPrefix l [45]=mi) :
    oe l ↔ t≠[]/\(t.head?≠some 48∨(t.length=1/\mi=false))/\∀ b ∈ t,cV b=true:=by
 rcases gN l with⟨t',rfl,h1,h2⟩|⟨h0,h1,h2⟩
 ·obtain rfl:t'=t:=by rw[← h1,ht]
  obtain rfl:mi=true:=by rw[← hm,h2]
  constructor
  ·rintro⟨n,hn⟩;have hneg:n<0:=by rw[← fY,← hn];rfl
   rw[bZ hneg] at hn;have e:=(List.cons.inj hn).2;obtain⟨b,r,e2,hb⟩:=gI n.natAbs ae;exact⟨by rw[e];exact fT _,Or.inl (by rw[e,e2];simpa using hb),by rw[e];exact bI _⟩
  ·rintro⟨g1,g3,g4⟩;have g3':t'.head?≠some 48:=by
    rcases g3 with g|⟨_,g⟩
    ·exact g
    ·cases g
   have e:=dW t' g1 g4 (Or.inl g3');have hp:val t'≠0:=by intro hv;rw[hv,fS] at e;rw[← e] at g3';simp at g3'
   exact⟨-(val t':Int),by rw[bZ ae,Int.natAbs_neg,Int.natAbs_natCast,e]⟩
 ·obtain rfl:l=t:=by rw[← h1,ht]
  obtain rfl:mi=false:=by rw[← hm,h2]
  constructor
  ·rintro⟨n,hn⟩;have hneg:0<=n:=by
    rcases Int.lt_or_le n 0 with h|h
    ·rw[bZ h] at hn;exact absurd hn (h0 _)
    ·exact h
   rw[b7 hneg] at hn;refine⟨by rw[hn];exact fT _,?_,by rw[hn];exact bI _⟩;by_cases hz:n.natAbs=0
   ·right;rw[hn,hz,fS];exact⟨rfl,rfl⟩
   ·left;obtain⟨b,r,e2,hb⟩:=gI n.natAbs hz;rw[hn,e2];simpa using hb
  ·rintro⟨g1,g3,g4⟩;have e:=dW l g1 g4 (by
    rcases g3 with g|⟨g,_⟩
    ·exact Or.inl g
    ·obtain⟨b,rfl⟩:=List.length_eq_one_iff.1 g;by_cases hb:b=48
     ·right;rw[hb]
     ·left;simp[hb])
   exact⟨(val l:Int),by rw[cW,e]⟩
theorem De:∀ (l:List UInt8) (h:0<l.length),((l[0].toNat:Int)=48 ↔ l.head?=some 48)
 | b :: t,_=>by
  simp only[List.getElem_cons_zero,List.head?_cons,Option.some.injEq];constructor
  ·intro e;apply UInt8.toNat_inj.1;show b.toNat=48;omega
  ·intro e;rw[e];rfl
theorem xj (a:ByteArray) (v:Bool) (w:World) (hs:a.size<=1000000) (hv:(oe a.data.toList->v=true)/\(¬ oe a.data.toList->v=false)) :
    Calls prog 216 #[.string a] w (aD w (.bool v)):=by
 obtain⟨t,ht⟩:∃ t,Lib.trimPrefix a.data.toList [45]=t:=⟨_,rfl⟩
 obtain⟨mi,hm⟩:∃ mi,Lib.hasPrefix a.data.toList [45]=mi:=⟨_,rfl⟩
 have hc:=kG a;rw[ht,hm] at hc;have hiff:=pB a.data.toList t mi ht hm;obtain⟨s,hst⟩:∃ s:ByteArray,s=⟨t.toArray⟩:=⟨_,rfl⟩
 rw[← hst] at hc;have hl:s.data.toList=t:=by rw[hst]
 have hsz:s.size=t.length:=by rw[dU,hl]
 have htl:t.length<=a.data.toList.length:=by
  rcases gN a.data.toList with⟨t',e,e1,_⟩|⟨_,e1,_⟩
  ·rw[← ht,e1,e];simp
  ·rw[← ht,e1];exact Nat.le_refl _
 clear hst;have hdg:Dg s ↔ ∀ b ∈ t,cV b=true:=by rw[vi,hl]
 refine Bl a s mi v w hc (by rw[← dU a] at htl;omega) (ai ⟨fun h=>hv.2 (fun e=>h (hdg.2 (hiff.1 e).2.2)),fun h=>⟨fun h0=>hv.2 (fun e=>(hiff.1 e).1 (List.length_eq_zero_iff.1 ae)),fun h1=>?_⟩⟩);have h48:(s[0].toNat:Int)=48 ↔ t.head?=some 48:=by rw[bj _ 0 h1,De,hl]
 have hne:t≠[]:=by intro e;rw[e,List.length_nil] at hsz;omega
 refine⟨fun e hh=>hv.2 (fun hc=>?_),fun e hm0 h2=>hv.1 (hiff.2 ⟨hne,Or.inr ⟨ae,hm0⟩,hdg.1 h⟩),fun e=>hv.1 (hiff.2 ⟨hne,Or.inl (fun hh=>e (h48.2 hh)),hdg.1 h⟩)⟩;rcases (hiff.1 hc).2.1 with k|⟨k1,k2⟩
 ·exact k (h48.1 e)
 ·rcases hh with hh|hh
  ·rw[k2] at hh;cases hh
  ·omega
theorem p8(l t:List UInt8)(ht:Lib.trimPrefix l [45]=t):bO l ↔ oe l/\t.length<=200:=by
 have h1:=oN l t _ ht rfl;have h2:=pB l t _ ht rfl;rw[h1,h2];constructor
 ·rintro⟨a,b,c,d⟩;exact⟨⟨a,c,d⟩,b⟩
 ·rintro⟨⟨a,c,d⟩,b⟩;exact⟨a,b,c,d⟩
theorem cK (a:ByteArray) (v:Bool) (w:World) (hs:a.size<=1000000) (hv:(bO a.data.toList->v=true)/\(¬ bO a.data.toList->v=false)) :
    Calls prog 145 #[.string a] w (aD w (.bool v)):=by
 obtain⟨t,ht⟩:∃ t,Lib.trimPrefix a.data.toList [45]=t:=⟨_,rfl⟩
 obtain⟨mi,hm⟩:∃ mi,Lib.hasPrefix a.data.toList [45]=mi:=⟨_,rfl⟩
 have hc:=kG a;rw[ht,hm] at hc;have hri:=p8 a.data.toList t ht;obtain⟨s,hst⟩:∃ s:ByteArray,s=⟨t.toArray⟩:=⟨_,rfl⟩
 rw[← hst] at hc;have hsz:s.size=t.length:=by rw[dU,hst]
 clear hst;have HC:=ai hc;by_cases h1:oe a.data.toList
 ·have K:=ai (fun w=>xj a true w hs ⟨fun _=>rfl,fun h=>absurd h1 h⟩);by_cases h2:t.length<=200
  ·have E:=ai (hv.1 (hri.2 ⟨h1,h2⟩));have h2':(s.size:Int)<=200:=ae;clear hv hri hc h1 h2 hsz ht hm;go_enter func145,ntmps145;go_wp2_with (first
    | (go_at_call 149;refine cto (HC.o _) fun w1 e1=>?_)
    | (go_at_call 216;refine cto (K.out _) fun w2 e2=>?_))
   go_ret;exact⟨by rw[E.out];rfl,e1.trans e2⟩
  ·have E:=ai (hv.2 (fun h=>h2 (hri.1 h).2));have h2':¬ (s.size:Int)<=200:=ae;have h2'':decide ((s.size:Int)<=200)=false:=by simpa using h2'
   clear hv hri hc h1 h2 hsz ht hm;go_enter func145,ntmps145;go_wp2_with (first
    | (go_at_call 149;refine cto (HC.o _) fun w1 e1=>?_)
    | (go_at_call 216;refine cto (K.out _) fun w2 e2=>?_))
   go_ret;exact⟨by rw[E.out];rfl,e1.trans e2⟩
 ·have K:=ai (fun w=>xj a false w hs ⟨fun h=>absurd h h1,fun _=>rfl⟩);have E:=ai (hv.2 (fun h=>h1 (hri.1 h).1));clear hv hri hc h1 hsz ht hm;go_enter func145,ntmps145;go_wp2_with (first
   | (go_at_call 149;refine cto (HC.o _) fun w1 e1=>?_)
   | (go_at_call 216;refine cto (K.out _) fun w2 e2=>?_))
  go_ret;exact⟨by rw[E.out];rfl,e1.trans e2⟩
def cS(w:World)(v:Value)(n:Nat):Prop:=∃ l,Holds .i64 w v l/\Canon 10000 l/\mv 10000 l=n
theorem cS.ext{w w':World}{v:Value}{n:Nat}(h:cS w v n)(e:Ext w w'):cS w' v n :=
 let ⟨l,h1,h2,h3⟩:=h;⟨l,h1.ext e,h2,h3⟩
theorem cS.slice{w:World}{v:Value}{n:Nat}(h:cS w v n):∃ ad len cap,v = .slice ad len cap:=by
 obtain⟨l,⟨ad,cap,b,off,hv,_⟩,_⟩:=h;exact⟨ad,_,cap,hv⟩
theorem cS.zero(w:World):cS w (.slice none 0 0) 0:=⟨[],Holds.nil _ _,Canon.nil _,rfl⟩
theorem cS.c8{w:World}{ad:Option Addr}{n c N:Nat}(h:cS w (.slice ad n c) N):n=0 ↔ N=0:=by
 obtain⟨l,⟨ad',cap,b,off,hv,_⟩,hc,hm⟩:=h;simp only[Value.slice.injEq] at hv;rw[hv.2.1];constructor
 ·intro e;have:l=[]:=List.length_eq_zero_iff.1 e;subst this;exact hm.symm
 ·intro e;rw[hc.gm af (by rw[hm,e])];rfl
def yw:Nat:=5000
structure eZ(n:Nat):Prop where
 out:n<10000 ^ yw
theorem eZ.len{n:Nat}{l:List Nat}(h:eZ n)(c:Canon 10000 l)(e:mv 10000 l=n):l.length<=5000 :=
 gR (k:=yw) af c (by rw[e];exact h.out)
theorem eZ.mono{a b:Nat}(h:eZ a)(hb:b<=a):eZ b:=⟨Nat.lt_of_le_of_lt hb h.out⟩
theorem IB.oj{k:Nat}{a:Int}(h:IB k a)(hk:k<=18000):eZ a.natAbs :=
 ⟨Nat.lt_of_lt_of_le h.out (by rw[show(10000:Nat)=10 ^ 4 by decide,← Nat.pow_mul];exact Nat.pow_le_pow_right af (Nat.le_trans hk af))⟩
theorem kf:(prog.info? 3).map (fun i=>(i.zero,i.size,i.bytes))=some (some (.int .i64 0),1,8):=ag
theorem iX(w:World):(sizeOf 3).run prog w = .ok 1 w:=ag
def tB(w:World)(l:List Nat)(v:Value)(e:Ending)(w':World):Prop :=
 ∃ v',e = .returned v'/\w=w'/\cS w v' (mv 10000 l)/\∃ ad n k cap,v = .slice ad n cap/\v' = .slice ad k cap
def Bu(w:World)(b:Bool)(e:Ending)(w':World):Prop:=e = .returned (.bool b)/\Ext w w'
theorem pz {w:World} {l:List Nat} {b off cap n k:Nat} (hn:n=l.length) (hk:k<=n) (hcap:n<=cap) (hmax:cap<=9223372036854775807) (hb:b<w.heap.size)
    (hc:∀ i,i<l.length->w.cell? ⟨b,off+i,none⟩=some (.int .i64 ((l.getD i 0:Nat):Int))) (hl:aJ 10000 l) (hz:∀ i (h:i<l.length),k<=i->l[i]=0)
    (hlast:k=0∨l[k-1]?.getD 0≠0):cS w (.slice (some ⟨b,off,none⟩) k cap) (mv 10000 l):=by
 have hlen:(l.take k).length=k:=by rw[List.length_take];omega
 have ht:=vS (B:=10000) (l:=l) (k:=k) ae hl hz (by
  rcases hlast with h|h
  ·exact Or.inl h
  ·by_cases h0:k=0
   ·exact Or.inl h0
   ·exact Or.inr ⟨ae,by simpa[show k-1<l.length by omega] using h⟩)
 refine⟨l.take k,Holds.some hlen ae hmax hb (fun i hi=>?_),ht.1,ht.2⟩;rw[hc i (by rw[hlen] at hi;omega)];rw[hlen] at hi;simp[hi]
set_option maxHeartbeats 400000 in
theorem py (l:List Nat) (v:Value) (w:World) (h:Holds .i64 w v l) (hl:aJ 10000 l) :
    Calls prog 222 #[v] w (tB w l v):=by
 by_cases hz:0<l.length
 ·obtain⟨b,off,cap,rfl,hcap,hmax,hb,hc⟩:=h.cells hz;obtain⟨n,hn⟩:∃ n,n=l.length:=⟨_,rfl⟩
  have hcap':n<=cap:=ae;have hn':n<=l.length:=ae;rw[← hn];have HN:=ai hn;clear hn h hz;go_enter func222,ntmps222;go_wp2;go_loop [0] (fun v=>∃ k:Nat,k<=n/\v = .slice (some ⟨b,off,none⟩) k cap/\∀ i (h:i<l.length),k<=i->l[i]=0)
   (fun v=>match v with | .slice _ k _=>k|_=>0)
  case atStart=>exact⟨n,Nat.le_refl _,rfl,fun i h1 h2=>by have:=HN.o;omega⟩
  case round =>
   obtain⟨k,hk,rfl,hz⟩:=hrel;by_cases h0:0<k
   ·have hcell:w.cell? ⟨b,off+(k-1),none⟩=some (.int .i64 ((l.getD (k-1) 0:Nat):Int)):=hc _ ae;go_wp2
    ·have h1:(((l[k-1]?.getD 0:Nat):Int) == 0)=true:=by assumption
     go_round
     case rel=>exact⟨k-1,ae,rfl,iB h0 hz (by simpa using h1)⟩
     case measure=>show k-1<k;omega
    ·have h1:(((l[k-1]?.getD 0:Nat):Int) == 0)=false:=by assumption
     go_ret;exact⟨_,rfl,rfl,pz HN.o hk hcap' hmax hb hc hl hz (Or.inr (by simpa using h1)),_,_,_,_,rfl,rfl⟩
   ·go_wp2;go_ret;exact⟨_,rfl,rfl,pz HN.o hk hcap' hmax hb hc hl hz (Or.inl ae),_,_,_,_,rfl,rfl⟩
 ·obtain rfl:l=[]:=List.length_eq_zero_iff.1 ae;obtain⟨ad,cap,b,off,rfl,_,hmax,_,_⟩:=h;simp only[List.length_nil];go_enter func222,ntmps222;go_wp2;go_loop [0] (fun v=>v = .slice ad 0 cap) (fun _=>0)
  case atStart=>rfl
  case round =>
   subst hrel;go_wp2;go_ret;exact⟨_,rfl,rfl,⟨[],Holds.empty _ _ _ _ hmax,Canon.nil _,rfl⟩,_,_,_,_,rfl,rfl⟩
theorem oZ {l m:List Nat} {k n:Nat} (hl:l.length=n) (hm:m.length=n) (hk:k<n) (hd:l.drop (k+1)=m.drop (k+1)) (bl:aJ 10000 l)
    (h:l[k]?.getD 0<m[k]?.getD 0):mv 10000 l<mv 10000 m:=by
 have h1:k<l.length:=ae;have h2:k<m.length:=ae;exact j6 bl ae h1 hd (by simpa[h1,h2] using h)
theorem kp{a b:Bool}(h:a=b):Ending.returned (.bool a) = .returned (.bool b):=by rw[h]
theorem Af {l m:List Nat} {k n:Nat} (hl:l.length=n) (hm:m.length=n) (hk:k<n) (hd:l.drop (k+1)=m.drop (k+1)) (bl:aJ 10000 l) (bm:aJ 10000 m)
    (h:l[k]?.getD 0≠m[k]?.getD 0):decide (l[k]?.getD 0<m[k]?.getD 0)=decide (mv 10000 l<mv 10000 m):=by
 by_cases h1:l[k]?.getD 0<m[k]?.getD 0
 ·rw[decide_eq_true h1,decide_eq_true (oZ hl hm hk hd bl h1)]
 ·have:=oZ hm hl hk hd.symm bm ae;rw[decide_eq_false h1,decide_eq_false ae]
set_option maxHeartbeats 1000000 in
theorem gu (a b:Nat) (va vb:Value) (w:World) (ha:cS w va a) (hb:cS w vb b) :
    Calls prog 260 #[va,vb] w (Bu w (decide (a<b))):=by
 obtain⟨l,hla,cl,rfl⟩:=ha;obtain⟨m,hlb,cm,rfl⟩:=hb;obtain⟨n,hn⟩:∃ n,n=l.length:=⟨_,rfl⟩
 obtain⟨n',hn'⟩:∃ n',n'=m.length:=⟨_,rfl⟩
 rcases Nat.lt_trichotomy n n' with hlt|heq|hgt
 ·obtain⟨ad,ca,_,_,rfl,h1,h2,_,_⟩:=hla;obtain⟨bd,cb,_,_,rfl,h3,h4,_,_⟩:=hlb;rw[← hn] at h1 ⊢;rw[← hn'] at h3 ⊢;have hr:decide (mv 10000 l<mv 10000 m)=true:=decide_eq_true (cl.gE af cm ae);rw[hr];clear hn hn' hr;go_enter func260,ntmps260;go_wp2;go_ret
  first|exact⟨rfl,Ext.refl _⟩|exact⟨kp (decide_eq_true ae),Ext.refl _⟩
 ·subst heq;by_cases h0:0<n
  ·obtain⟨b1,o1,ca,rfl,h1,h2,hb1,hc1⟩:=hla.cells ae;obtain⟨b2,o2,cb,rfl,h3,h4,hb2,hc2⟩:=hlb.cells ae;rw[← hn] at h1 hc1 ⊢;rw[← hn'] at h3 hc2 ⊢;have HN:=ai hn;have HN':=ai hn';clear hn hn' hla hlb;go_enter func260,ntmps260;go_wp2;go_loopw [5] (fun i wr=>∃ k:Nat,k<=n/\i = .int .i64 ((k:Int)-1)/\l.drop k=m.drop k/\Ext w wr) (fun i _=>(intOf i+1).toNat)
   case atStart=>exact⟨n,Nat.le_refl _,rfl,by rw[List.drop_of_length_le (by have:=HN.o;omega),List.drop_of_length_le (by have:=HN'.o;omega)],Ext.refl _⟩
   case round =>
    obtain⟨k,hk,rfl,hd,hx⟩:=hrel;by_cases hk0:0<k
    ·obtain⟨j,rfl⟩:∃ j,k=j+1:=⟨k-1,ae⟩
     have ej:(((j+1:Nat):Int)-1)=(j:Int):=ae;rw[ej];clear ej;have g1:wr.cell? ⟨b1,o1+j,none⟩=some (.int .i64 ((l.getD j 0:Nat):Int)):=(hx.cell hb1).trans (hc1 j ae);have g2:wr.cell? ⟨b2,o2+j,none⟩=some (.int .i64 ((m.getD j 0:Nat):Int)):=(hx.cell hb2).trans (hc2 j ae);have HD:=ai hd;clear hd;go_wp2;go_quiet (fail);go_wp2
     ·have hne:(((l[j]?.getD 0:Nat):Int) != ((m[j]?.getD 0:Nat):Int))=true:=by assumption
      go_quiet (fail);go_wp2;have h2:=Ag hne;go_ret;exact⟨kp (Af HN.o.symm HN'.o.symm ae HD.o cl.lt cm.lt h2),(hx.drewN _).drewN _⟩
     ·have hne:(((l[j]?.getD 0:Nat):Int) != ((m[j]?.getD 0:Nat):Int))=false:=by assumption
      go_roundw
      case rel=>exact⟨j,ae,rfl,pn HN.o.symm HN'.o.symm ae HD.o (A5 hne),hx.drewN _⟩
      case measure=>simp[intOf]
    ·obtain rfl:k=0:=ae;go_wp2;go_ret;refine⟨kp ?_,hx⟩;rw[show l=m from by simpa using hd];simp
  ·obtain⟨ad,ca,_,_,rfl,h1,h2,_,_⟩:=hla;obtain⟨bd,cb,_,_,rfl,h3,h4,_,_⟩:=hlb;obtain rfl:l=[]:=List.length_eq_zero_iff.1 ae;obtain rfl:m=[]:=List.length_eq_zero_iff.1 ae;simp only[List.length_nil];clear hn hn';go_enter func260,ntmps260;go_wp2;refine wp_loop_rounds 1 ?_;rw[rounds_succ];go_wp2;go_ret;exact⟨rfl,Ext.refl _⟩
 ·obtain⟨ad,ca,_,_,rfl,h1,h2,_,_⟩:=hla;obtain⟨bd,cb,_,_,rfl,h3,h4,_,_⟩:=hlb;rw[← hn] at h1 ⊢;rw[← hn'] at h3 ⊢;have hr:decide (mv 10000 l<mv 10000 m)=false:=decide_eq_false (by have:=cm.gE af cl ae;omega);rw[hr];clear hn hn' hr;go_enter func260,ntmps260;go_wp2;go_ret
  first|exact⟨rfl,Ext.refl _⟩|exact⟨kp (decide_eq_false ae),Ext.refl _⟩
theorem tT(s:ByteArray)(lo e:Nat)(h:lo<=e)(he:e<=s.size):eF s 0 e=eF s 0 lo*10 ^ (e-lo)+eF s lo e:=by
 unfold eF;simp only[List.drop_zero,Nat.sub_zero];have hl:s.data.toList.length=s.size:=(dU s).symm;have e1:s.data.toList.take e=s.data.toList.take lo ++ (s.data.toList.drop lo).take (e-lo):=by
  rw[← List.take_append_drop lo (s.data.toList.take e),List.take_take,Nat.min_eq_left h,List.drop_take]
 rw[e1,cA];simp only[List.length_take,List.length_drop,hl];rw[Nat.min_eq_left ae]
structure jl(s:ByteArray)(V e:Nat)(P:List Nat):Prop where
 le:e<=s.size
 len:0<e->4*P.length+e=s.size
 room:4*P.length<=s.size+3
 lt:aJ 10000 P
 val:mv 10000 P+10000 ^ P.length*eF s 0 e=V
theorem jl.step{s:ByteArray}{V e lo:Nat}{P:List Nat}(h:jl s V e P)(h0:0<e)(hlo:lo=e-4)(hd:vI s 0 s.size):jl s V lo (P ++ [eF s lo e]):=by
 have hl:=h.len h0;have hle:=h.le;refine⟨ae,?_,?_,?_,?_⟩
 ·intro h1;simp;omega
 ·simp;omega
 ·intro x hx;rcases List.mem_append.1 hx with hx|hx
  ·exact h.lt x hx
  ·simp only[List.mem_singleton] at hx;subst hx;have h1:=lI s lo s.size e (fun i a b=>hd i (Nat.zero_le _) b) ae h.le;have h2:10 ^ (e-lo)<=10 ^ 4:=Nat.pow_le_pow_right af ae;exact Nat.lt_of_lt_of_le h1 h2
 ·rw[eN,← h.val,tT s lo e ae h.le];by_cases h4:4<=e
  ·rw[show e-lo=4 by omega,show(10:Nat) ^ 4=10000 by decide,List.length_append,List.length_singleton,Nat.pow_succ];generalize 10000 ^ P.length=p;generalize eF s 0 lo=x;generalize eF s lo e=y;rw[Nat.mul_add,Nat.mul_assoc p,Nat.mul_comm x];omega
  ·obtain rfl:lo=0:=ae;rw[cB];simp
def xp(w:World)(n:Nat)(e:Ending)(w':World):Prop:=∃ v,e = .returned v/\Ext w w'/\cS w' v n
theorem jB(w:World)(c:Int)(T:TypeId):∀ j u,[Value.int .i64 c][j]?=some u->(w.alloc (.cells #[.int .i64 c] T)).cell? ((⟨w.heap.size,0,none⟩:Addr).add j)=some u:=by
 intro j u hu
 match j,hu with
 | 0,hu=>simp at hu;subst hu;rw[Addr.add_lit];exact(aq.new w #[.int .i64 c] T).cell 0 rfl
theorem ni{w:World}{B e n:Nat}{v:Value}{xs:List Value}(h:w.ownsRow B e 1 v n xs):∃ ad m c,v = .slice ad m c:=by
 rcases h.2 with⟨rfl,_⟩|⟨g,cap,cur,rfl,_⟩
 ·exact⟨_,_,_,rfl⟩
 ·exact⟨_,_,_,rfl⟩
theorem aP (N:Nat) (w:World) (hN:(Lib.decDigits N).length<=20000) :
    Calls prog 153 #[.string (zs (N:Int))] w (xp w N):=by
 obtain⟨i0,hi,hz0,hz1,hz2⟩:=info_parts kf;obtain⟨s,hs⟩:∃ s,s=zs (N:Int):=⟨_,rfl⟩
 rw[← hs];have hsl:s.data.toList=[] ++ Lib.decDigits N ++ []:=by rw[hs,bQ,cW];simp
 have hd:=iP hsl (bI _);have hsv:=jR hsl;have hsz:s.size=(Lib.decDigits N).length:=by rw[hs,bh]
 simp only[List.length_nil,Nat.zero_add] at hd hsv;rw[← hsz] at hd hsv;rw[dp] at hsv;have hs2:s.size<=20000:=ae;have HD:=ai hd;have HI0:Hid (jl s N s.size []):=ai ⟨Nat.le_refl _,fun _=>by simp,by simp,fun x hx=>by simp at hx,by rw[hsv];simp[mv]⟩;clear hs hsl hd hsv hsz hN;go_enter func153,ntmps153;go_wp2;go_loopw [3,4] (fun out z W=>∃ (Z:Int) (P:List Nat),z = .int .i64 Z/\-4<=Z/\Z<=20000/\Hid (jl s N Z.toNat P)/\W.ownsRow w.heap.size 3 1 out P.length (P.map fun(x:Nat)=>Value.int .i64 x)/\Ext w W)
  (fun _ z _=>(intOf z).toNat)
 case atStart=>exact⟨s.size,[],rfl,ae,ae,ai (by simpa using HI0.o),⟨rfl,Or.inl ⟨rfl,rfl⟩⟩,Ext.refl _⟩
 case round =>
  obtain⟨Z,P,rfl,hZ1,hZ2,hinv,hown,hx⟩:=hrel;obtain⟨oa,on,oc,rfl⟩:=ni hown;by_cases hZ:0<Z
  ·obtain⟨e,rfl⟩:∃ e:Nat,Z=e:=⟨Z.toNat,ae⟩
   have he:0<e:=ae;have hle:e<=s.size:=by have:=hinv.out.le;simpa using this
   have hroom:P.length<=6000:=by have:=hinv.out.room;omega
   obtain⟨lo,hlo⟩:∃ lo,lo=e-4:=⟨_,rfl⟩
   have hmax:max 0 ((e:Int)-4)=(lo:Int):=ae;have hlo2:lo<=e:=ae;have HL:=ai hlo;have HO:=ai hown;clear hlo hown;go_wp2;go_loop [5,6] (fun n i=>∃ (k M:Nat),lo<=k/\k<=e/\i = .int .i64 k/\n = .int .i64 M/\M<10000/\Hid (M=eF s lo k)) (fun _ i=>e-(intOf i).toNat)
   case atStart=>exact⟨lo,0,Nat.le_refl _,hlo2,rfl,rfl,ae,ai (cB s lo).symm⟩
   case round =>
    obtain⟨k,M,hk1,hk2,rfl,rfl,hM,HM⟩:=hrel;by_cases hk:k<e
    ·have hks:k<s.size:=ae;obtain⟨_,d1,d2⟩:=HD.o k (Nat.zero_le _) hks;have hst:=eE s lo k hk1 hks;have hb:M<1000:=by
      rw[HM.o];have h1:=lI s lo s.size k (fun i a b=>HD.o i (Nat.zero_le _) b) hk1 ae;have h2:10 ^ (k-lo)<=10 ^ 3:=Nat.pow_le_pow_right af (by have:=HL.o;omega);exact Nat.lt_of_lt_of_le h1 h2
     have HST:=ai hst;clear hst;go_wp2;go_round
     case rel=>exact⟨k+1,10*M+(s[k].toNat-48),ae,ae,by go_num,by simp only[Value.int.injEq,true_and];omega,ae,ai (by rw[HST.o,HM.o])⟩
     case measure=>simp[intOf];omega
    ·obtain rfl:k=e:=ae;have HST:=ai ((show jl s N k P by have:=hinv.out;simpa using this).step he HL.o HD.o);go_wp2_with (at_builtin;refine wpList_append_own (wr.alloc (.cells #[.int .i64 (M:Int)] 3)) rfl _ _ 85 rfl w.heap.size 3 i0 (.int .i64 0) 1 8 underlying85 hi hz0 hz1 hz2 rfl af _ P.length _ rfl (HO.o.alloc _) ⟨wr.heap.size,0,none⟩ 1 1 [.int .i64 (M:Int)] rfl rfl (jB wr M _) (by intro u hu;simp at hu;subst hu;rfl) (by unfold maxLen;omega) ae (by have:=hx.size;simp;omega) ?_;intro v' w1 hown1 hgrow1 hv1);go_roundw
     case rel =>
      refine⟨(k:Int)-4,P ++ [M],rfl,ae,ae,ai (by rw[HM.o,show((k:Int)-4).toNat=lo by have:=HL.o;omega];exact HST.o),?_,?_⟩
      ·rw[List.length_append,List.map_append];exact hown1
      ·exact(hx.alloc _).grown hgrow1 (fun g hg=>dx HO.o g hg)
     case measure=>simp[intOf];omega
  ·have hval:=hinv.out.val;rw[show Z.toNat=0 by omega,cB,Nat.mul_zero,Nat.add_zero] at hval;have HV:=ai hval;have HH:=ai (Holds.cH hown);clear hval hown;go_wp2_with (go_at_call 222;refine(py P _ _ HH.o hinv.out.lt).mono ?_;rintro e w' ⟨v',rfl,rfl,hm,_⟩);go_ret;exact⟨_,rfl,hx,by rw[HV.o] at hm;exact hm⟩
def kU(x:Nat):List UInt8:=List.replicate (4-(Lib.decDigits x).length) 48 ++ Lib.decDigits x
theorem xh{x:Nat}(h:x<10000):(Lib.decDigits x).length<=4:=bX (k:=4) af ae
theorem gj{x:Nat}(h:x<10000):(kU x).length=4:=by
 unfold kU;have:=xh h;simp;omega
theorem Ab(x:Nat):val (kU x)=x:=by unfold kU;rw[oF,dp]
theorem xW(x:Nat):∀ b ∈ kU x,cV b=true:=by
 intro b hb;rcases List.mem_append.1 hb with hb|hb
 ·rw[(List.mem_replicate.1 hb).2];decide
 ·exact bI _ _ hb
theorem pw{m x:Nat}(hm:m≠0)(hx:x<10000):Lib.decDigits (x+10000*m)=Lib.decDigits m ++ kU x:=by
 have hv:val (Lib.decDigits m ++ kU x)=x+10000*m:=by
  rw[cA,Ab,gj hx,dp];omega
 rw[← hv];obtain⟨b,t,e,hb⟩:=gI m hm;refine dW _ (by simp[fT]) (fun b hb=>?_) (Or.inl ?_)
 ·rcases List.mem_append.1 hb with h|h
  ·exact bI _ _ h
  ·exact xW _ _ h
 ·rw[e];simp[hb]
theorem Eb{x:Nat}(hx:x<10000):zs (10000+(x:Int))=⟨(49 :: kU x).toArray⟩/\(zs (10000+(x:Int))).size=5/\(zs (10000+(x:Int))).extract 1 5=⟨(kU x).toArray⟩:=by
 have e:zs (10000+(x:Int))=⟨(49 :: kU x).toArray⟩:=by
  unfold zs;rw[show(10000+(x:Int))=((x+10000*1:Nat):Int) by omega,cW,pw af hx,kn];rfl
 refine⟨e,by rw[e];simp[ByteArray.size,gj hx],?_⟩;rw[e];apply cf;rw[ek];show(kU x).take (5-1)=kU x;exact List.take_of_length_le (by rw[gj hx];omega)
def mG(L:List Nat)(k:Nat):List UInt8:=Lib.decDigits (mv 10000 (L.drop (L.length-k)))
theorem xz(L:List Nat):mG L L.length=Lib.decDigits (mv 10000 L):=by
 unfold mG;rw[Nat.sub_self,List.drop_zero]
theorem tP{L:List Nat}{i:Nat}(hi:i<L.length)(h:i=L.length-1):mG L 1=Lib.decDigits (L[i]?.getD 0):=by
 unfold mG;rw[show L.length-1=i by omega,List.drop_eq_getElem_cons hi,List.drop_eq_nil_of_le ae,dA];simp[hi]
theorem xy{L:List Nat}{i k:Nat}(hL:Canon 10000 L)(hk:k≠0)(hi:i<L.length)(h:i=L.length-1-k)(hkl:k<L.length):mG L (k+1)=mG L k ++ kU (L[i]?.getD 0):=by
 unfold mG;rw[show L.length-(k+1)=i by omega,List.drop_eq_getElem_cons hi,show i+1=L.length-k by omega];have hc:=hL.drop (L.length-k);have hpos:=hc.pos af (by intro e;have:=congrArg List.length e;simp at this;omega);rw[show L[i]?.getD 0=L[i] by simp[hi],← pw ae (hL.lt _ (List.getElem_mem hi))];rfl
theorem y8{L:List Nat}(hL:aJ 10000 L)(k:Nat)(hk:k<=L.length)(h0:0<k):(mG L k).length<=4*k:=by
 unfold mG;refine bX ae ?_;have:=jq (B:=10000) (l:=L.drop (L.length-k)) (fun x hx=>hL x (List.mem_of_mem_drop hx));rw[List.length_drop,show L.length-(L.length-k)=k by omega] at this;rwa[Nat.pow_mul]
theorem yC(x y:List UInt8):(⟨x.toArray⟩:ByteArray) ++ ⟨y.toArray⟩=⟨(x ++ y).toArray⟩:=by
 apply cf;rw[ByteArray.data_append,Array.toList_append]
set_option maxHeartbeats 1000000 in
theorem yk(ad:Option Addr)(c:Nat)(w:World):Calls prog 223 #[.slice ad 0 c] w (aD w (.string (zs 0))):=by
 rw[pE];go_enter func223,ntmps223;go_wp2;go_ret;exact⟨rfl,Ext.refl _⟩
theorem AN (N:Nat) (ad:Option Addr) (n c:Nat) (w:World) (hm:cS w (.slice ad n c) N) (hn0:0<n) (hn:n<=6000) (g:Gd w) :
    Calls prog 223 #[.slice ad n c] w (aD w (.string (zs (N:Int)))):=by
 obtain⟨L,hL,cL,hLv⟩:=hm;obtain⟨ad',ca,ba,oa,heq,h1a,hca,hba,hCa⟩:=hL;simp only[Value.slice.injEq] at heq;obtain⟨rfl,hnl,rfl⟩:=heq;have HN:=ai hnl;have HLV:=ai hLv;have HC:=ai cL;rw[← hnl] at h1a hba hCa;obtain⟨rfl,hbs⟩:=hba hn0;have H2:=ai hCa;have HG:=ai g;obtain⟨j,rfl⟩:∃ j,n=j+1:=⟨n-1,ae⟩
 obtain⟨x,hx⟩:∃ x,x=L[j]?.getD 0:=⟨_,rfl⟩
 have hxlt:x<10000:=by rw[hx];exact aW af cL.lt j
 have hc0:w.cell? ⟨ba,oa+j,none⟩=some (.int .i64 (x:Int)):=by rw[hx];exact hCa j ae
 have HX:=ai hx;have ej:((j+1:Nat):Int)-1=(j:Int):=ae;clear hnl hLv hCa cL g hba hx hn0;go_enter func223,ntmps223;go_wp2_with (go_at_call 193;refine cto (gv (x:Int) ae ae _ HG.o) fun w1 e1=>?_);clear ej hc0;go_loopw [3,4] (fun out i W=>∃ k:Nat,1<=k/\k<=j+1/\i = .int .i64 ((j:Int)-k)/\(∃ o:ByteArray,out = .string o/\o.size<=24000/\Hid (o=⟨(mG L k).toArray⟩))/\Ext w W) (fun _ i _=>(intOf i+1).toNat)
 case atStart =>
  refine⟨1,Nat.le_refl _,ae,by congr 1;omega,⟨zs (x:Int),rfl,by rw[bh];have:=xh hxlt;omega,ai ?_⟩,e1⟩;rw[tP (by rw[← HN.o];exact Nat.lt_succ_self j) (by rw[← HN.o];rfl),← HX.o];unfold zs;rw[cW]
 case round =>
  obtain⟨k,hk1,hk2,rfl,⟨o,rfl,ho,HO⟩,hx⟩:=hrel;by_cases hk:k<=j
  ·obtain⟨i,hi⟩:∃ i,i=j-k:=⟨_,rfl⟩
   have ei:(j:Int)-k=(i:Int):=ae;rw[ei];obtain⟨y,hy⟩:∃ y,y=L[i]?.getD 0:=⟨_,rfl⟩
   have hylt:y<10000:=by rw[hy];exact aW af HC.o.lt i
   have hc0:wr.cell? ⟨ba,oa+i,none⟩=some (.int .i64 (y:Int)):=by rw[hy];exact(hx.cell (p:=⟨ba,oa+i,none⟩) hbs).trans (H2.o i ae)
   have hi2:i<j+1:=ae;obtain⟨_,z2,z3⟩:=Eb hylt;obtain⟨zz,hzz⟩:∃ zz,zz=zs (10000+(y:Int)):=⟨_,rfl⟩
   rw[← hzz] at z2 z3;have HZ:=ai hzz;have Z3:=ai z3;have HY:=ai hy;have HI:=ai hi;have z3s:(zz.extract 1 5).size=4:=by rw[z3];simp[ByteArray.size,gj hylt]
   have Z3S:=ai z3s;have hk1':(1:Int)<=(zz.size:Int):=ae;have HO4:Hid (o ++ zz.extract 1 5=⟨(mG L (k+1)).toArray⟩):=ai (by
    rw[HO.o,z3,yC,xy HC.o ae (by rw[← HN.o];omega) (by rw[← HN.o];omega) (by rw[← HN.o];omega),hy])
   clear ei hzz z3 hy hi z3s;go_wp2_with (go_at_call 193;refine(gv (10000+(y:Int)) ae ae _ (HG.o.ext hx)).mono ?_;rw[← HZ.o];rintro e w2 ⟨rfl,e2⟩);go_roundw
   case rel =>
    refine⟨k+1,ae,ae,by have:=HI.o;congr 1;omega,⟨_,rfl,?_,HO4⟩,hx.trans e2⟩;rw[HO4.o];have:=y8 HC.o.lt (k+1) (by rw[← HN.o];omega) ae;simp[ByteArray.size];omega
   case measure=>(simp[intOf]);try (have:=HI.o;omega)
  ·obtain rfl:k=j+1:=ae;have E:Hid (o=zs (N:Int)):=ai (by rw[HO.o,HN.o,xz,HLV.o];unfold zs;rw[cW]);have hneg:¬ (0:Int)<=(j:Int)-((j+1:Nat):Int):=ae;go_wp2;go_ret;exact⟨bV E.out,hx⟩
theorem cS.kW{w:World}{ad:Option Addr}{n c N:Nat}(h:cS w (.slice ad n c) N)(f:eZ N):n<=5000:=by
 obtain⟨l,⟨ad',cap,b,off,hv,_⟩,hc,hm⟩:=h;simp only[Value.slice.injEq] at hv;rw[hv.2.1];exact f.len hc hm
theorem uN (N:Nat) (ad:Option Addr) (n c:Nat) (w:World) (hm:cS w (.slice ad n c) N) (f:eZ N) (g:Gd w) :
    Calls prog 223 #[.slice ad n c] w (aD w (.string (zs (N:Int)))):=by
 have hn:=hm.kW f;by_cases h0:n=0
 ·subst h0;have:=hm.c8.1 rfl;subst this;exact yk ad c w
 ·exact AN N ad n c w hm ae ae g
set_option maxHeartbeats 1000000 in
theorem bN (s:Bool) (N0:Nat) (v:Value) (w:World) (hm:cS w v N0) (f:eZ N0) (g:Gd w) :
    Calls prog 151 #[.bool s,v] w (aD w (.string (zs (en s N0)))):=by
 obtain⟨L,hL,cL,rfl⟩:=hm;have hcut:=py L v w hL cL.lt;obtain⟨N,hN⟩:∃ N,N=mv 10000 L:=⟨_,rfl⟩
 unfold tB at hcut;rw[← hN] at hcut f ⊢;have HC:=ai hcut;have HF:=ai f;have HG:=ai g;obtain⟨ad,nn,cc,rfl⟩:∃ ad nn cc,v = .slice ad nn cc:=by obtain⟨ad,cap,b,off,hv,_⟩:=hL;exact⟨_,_,_,hv⟩
 clear hcut f g hL cL hN;by_cases h0:N=0
 ·have H0:Hid (en s N=(N:Int)):=ai (by subst h0;exact rM s);have H1:=ai h0;clear h0;cases s
  all_goals
   go_enter func151,ntmps151;go_wp2_with (first
    | (go_at_call 222;refine HC.o.mono ?_;rintro e w' ⟨v',rfl,rfl,hm,_,_,k,cap,_,rfl⟩;have hk0:k=0:=hm.c8.2 H1.o;subst hk0)
    | (go_at_call 223;refine cto (uN N _ _ _ _ hm HF.o HG.o) fun w1 e1=>?_))
   go_ret;exact⟨a8 H0.o.symm,e1⟩
 ·cases s
  ·have H0:Hid (en false N=(N:Int)):=ai rfl;go_enter func151,ntmps151;go_wp2_with (first
    | (go_at_call 222;refine HC.o.mono ?_;rintro e w' ⟨v',rfl,rfl,hm,_,_,k,cap,_,rfl⟩)
    | (go_at_call 223;refine cto (uN N _ _ _ _ hm HF.o HG.o) fun w1 e1=>?_))
   go_ret;exact⟨a8 H0.o.symm,e1⟩
  ·have H0:Hid ((⟨#[45]⟩:ByteArray) ++ zs (N:Int)=zs (en true N)):=ai (jt ae);have hsz:(zs (N:Int)).size<=30000:=by
    rw[bh];refine Nat.le_trans (bX (k:=20000) af ?_) af;have:=HF.o.out;rwa[show(10000:Nat)=10 ^ 4 by decide,← Nat.pow_mul,show 4*yw=20000 by decide] at this
   have H1:=ai h0;clear h0;go_enter func151,ntmps151;go_wp2_with (first
    | (go_at_call 222;refine HC.o.mono ?_;rintro e w' ⟨v',rfl,rfl,hm,_,_,k,cap,_,rfl⟩;have hk0:0<k:=by rcases Nat.eq_zero_or_pos k with h|h;(exact absurd (hm.c8.1 h) H1.o);exact h)
    | (go_at_call 223;refine cto (uN N _ _ _ _ hm HF.o HG.o) fun w1 e1=>?_))
   go_ret;exact⟨bV H0.o,e1⟩
end Go.Proofs.YtmahadmefplbnaaGreatDoor
