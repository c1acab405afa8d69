/- Part 19. -/
import Derived.Test.YtmahadmefplbnaaGreatDoorQRV18
import Derived.Deep.LoopGhost
set_option maxRecDepth 100000
set_option maxHeartbeats 2000000
theorem Go.Proofs.YtmahadmefplbnaaGreatDoor.Hi19 {p:Prop} (h:p):Go.RowKit.Hid p:=h
namespace Go.Proofs.YtmahadmefplbnaaGreatDoor
open Go Go.RowKit
theorem max_neg (X:Int):max X (-X)=(X.natAbs:Int):=by omega
theorem gcd_small (a b:Int) (w:World) (g:Gd w) (ha:(zl a).length<=18) (hb:(zl b).length<=18):Calls Tryz.prog 182 #[.string (zs a),.string (zs b)] w (Ret w (.string (zs (Int.gcd a b)))):=by
 have h1:=lt_of_zl_len ha;have h2:=lt_of_zl_len hb;have ba:a.natAbs<=1000000000000000000:=Nat.le_of_lt h1;have bb:b.natAbs<=1000000000000000000:=Nat.le_of_lt h2;have HA:=Hi19 ha;have HB:=Hi19 hb;have BA:=Hi19 ba;have BB:=Hi19 bb;clear h1 h2 ha hb ba bb;go_enter Tryz.func182,Tryz.ntmps182;go_wp2_with (first
  | (go_at_call 167;((with_reducible refine (quick_yes a 18 w (by have:=HA.out;omega) (by decide)).mono ?_);rintro e w1 ⟨rfl,e1⟩))
  | (go_at_call 167;refine (quick_yes b 18 _ (by have:=HB.out;omega) (by decide)).mono ?_;rintro e w2 ⟨rfl,e2⟩))
 go_loopw [5,7] (fun x y W=>∃ X Y:Int,x = .int .i64 X/\y = .int .i64 Y/\Int.gcd X Y=Int.gcd a b/\X.natAbs<=1000000000000000000/\Y.natAbs<=1000000000000000000/\Ext w W)
  (fun _ y _=>(intOf y).natAbs)
 case atStart=>exact ⟨a,b,rfl,rfl,rfl,BA.out,BB.out,e1.trans e2⟩
 case round =>
  obtain ⟨X,Y,rfl,rfl,hg,hX,hY,hx⟩:=hrel;have HGC:=Hi19 hg;have HX:=Hi19 hX;have HY:=Hi19 hY;have x1:-1000000000000000000<=X:=by omega
  have x2:X<=1000000000000000000:=by omega
  have y1:-1000000000000000000<=Y:=by omega
  have y2:Y<=1000000000000000000:=by omega
  clear hg hX hY;by_cases h0:Y=0
  ·subst h0;have hf:Int.gcd a b=X.natAbs:=by rw [← HGC.out,Int.gcd_zero]
   have HF:=Hi19 hf;clear hf;go_wp2_with (go_at_call 168;refine (of_c (max X (-X)) (by omega) (by omega) _ (g.ext hx)).mono ?_;rintro e w3 ⟨rfl,e3⟩);go_ret;exact ⟨ret_str (by rw [max_neg,HF.out]),hx.trans e3⟩
  ·have hs:=gcd_step X Y;have hm:=Int.natAbs_tmod X Y;have hlt:=Nat.mod_lt X.natAbs (show 0<Y.natAbs by omega);have HS:=Hi19 hs;have HL:=Hi19 (show (X.tmod Y).natAbs<Y.natAbs by omega);clear hs hm hlt;go_wp2;go_region
   all_goals
    go_roundw
    case rel=>(repeat apply Exists.intro);exact ⟨⟨Y,X.tmod Y,rfl,rfl,by rw [HS.out,HGC.out],HY.out,by have:=HL.out;have:=HY.out;omega,hx.drew⟩,rfl⟩
    case measure=>have:=HL.out;simpa [intOf] using this
theorem field_p (s:Bool) (ad:Option Addr) (n c:Nat) (w:World):(Instr.field 216 (.agg #[.bool s,.slice ad n c]) 1).run Tryz.prog w = .ok (.slice ad n c) w:=by kernel_rfl
theorem Fd.mono {a b:Nat} (h:Fd a) (hb:b<=a):Fd b:=⟨Nat.lt_of_le_of_lt hb h.out⟩
set_option maxHeartbeats 4000000 in
theorem gcd_big (a b:Int) {k m:Nat} (w:World) (g:Gd w) (ha:IB k a) (hb:IB m b) (hk:k<=9000) (hm:m<=9000) (h:¬ ((zl a).length<=18/\(zl b).length<=18)):Calls Tryz.prog 182 #[.string (zs a),.string (zs b)] w (Ret w (.string (zs (Int.gcd a b)))):=by
 have la:=ha.len hk;have lb:=hb.len hm;have HA:=Hi19 (ha.fit hk);have HB:=Hi19 (hb.fit hm);have HG:=Hi19 g;clear ha hb g;have hfp:=field_p;by_cases h9:(zl a).length<=18
 ·have h9':¬ (zl b).length<=18:=fun e=>h ⟨h9,e⟩
  have H9:=Hi19 h9;have H9':=Hi19 h9';clear h h9 h9';go_enter Tryz.func182,Tryz.ntmps182;go_wp2_with (first
   | (go_at_call 167;((with_reducible refine (quick_yes a 18 w (by have:=H9.out;omega) (by decide)).mono ?_);rintro e w1 ⟨rfl,e1⟩))
   | (go_at_call 167;refine (quick_no b 18 _ (by have:=H9'.out;omega)).mono ?_;rintro e w2 ⟨rfl,e2⟩)
   | (go_at_call 169;((with_reducible refine (open_c a w2 la).mono ?_);rintro e w3 ⟨va,rfl,e3,ad,na,ca,rfl,ma⟩))
   | (go_at_call 169;refine (open_c b w3 lb).mono ?_;rintro e w4 ⟨vb,rfl,e4,bd,nb,cb,rfl,mb⟩))
  have e12:Ext w w2:=e1.trans e2;clear e1 e2;go_loopg [9,10] b.natAbs (fun gk x y W=>∃ (X Y:Nat) (xa ya:Option Addr) (xn xc yn yc:Nat),x = .slice xa xn xc/\y = .slice ya yn yc/\Mag W (.slice xa xn xc) X/\Mag W (.slice ya yn yc) Y/\Y<=gk/\Nat.gcd X Y=Int.gcd a b/\Fd X/\Fd Y/\Ext w W)
  case atStart=>exact ⟨a.natAbs,b.natAbs,_,_,_,_,_,_,rfl,rfl,ma.ext e4,mb,Nat.le_refl _,rfl,HA.out,HB.out,(e12.trans e3).trans e4⟩
  case round =>
   obtain ⟨X,Y,xa,ya,xn,xc,yn,yc,rfl,rfl,mx,my,hk,hgc,fx,fy,hx⟩:=hrel;have hl:=my.len_iff;have HMX:=Hi19 mx;have HMY:=Hi19 my;have HGC:=Hi19 hgc;have HFX:=Hi19 fx;have HFY:=Hi19 fy;clear mx my hgc fx fy;by_cases h0:yn=0
   ·have hY:=hl.1 h0;subst h0;subst hY;have hf:Int.gcd a b=X:=by rw [← HGC.out,Nat.gcd_zero_right]
    have HF:=Hi19 hf;clear hf hl;go_wp2_with (go_at_call 171;refine (close_c false X _ _ _ _ HMX.out HFX.out.fit.five (HG.out.ext hx)).mono ?_;rintro e w9 ⟨rfl,e9⟩);go_ret;exact ⟨ret_str (by rw [HF.out];rfl),hx.trans e9⟩
   ·have hY:0<Y:=by
     rcases Nat.eq_zero_or_pos Y with h|h
     ·exact absurd (hl.2 h) h0
     ·exact h
    have hyn:0<yn:=by omega
    have hmod:=Nat.mod_lt X hY;have HY:=Hi19 hY;clear hl hY;go_wp2_with (go_at_call 246;refine (divide_c X Y _ _ _ HMX.out HMY.out HY.out HFX.out).mono ?_;rintro e w5 ⟨vq,vr,rfl,e5,mq,mr⟩;obtain ⟨qa,ql,qc,rfl⟩:=mq.slice;obtain ⟨ra,rl,rc,rfl⟩:=mr.slice);go_roundg (X % Y)
    case rel=>exact ⟨Y,X % Y,ya,ra,yn,yc,rl,rc,rfl,rfl,HMY.out.ext e5,mr,Nat.le_refl _,by rw [← HGC.out,Nat.gcd_comm,← Nat.gcd_rec,Nat.gcd_comm],HFY.out,HFX.out.mono (Nat.mod_le _ _),hx.trans e5⟩
    case measure=>omega
 ·have H9:=Hi19 h9;clear h h9;go_enter Tryz.func182,Tryz.ntmps182;go_wp2_with (first
   | (go_at_call 167;((with_reducible refine (quick_no a 18 w (by have:=H9.out;omega)).mono ?_);rintro e w2 ⟨rfl,e12⟩))
   | (go_at_call 169;((with_reducible refine (open_c a w2 la).mono ?_);rintro e w3 ⟨va,rfl,e3,ad,na,ca,rfl,ma⟩))
   | (go_at_call 169;refine (open_c b w3 lb).mono ?_;rintro e w4 ⟨vb,rfl,e4,bd,nb,cb,rfl,mb⟩))
  go_loopg [9,10] b.natAbs (fun gk x y W=>∃ (X Y:Nat) (xa ya:Option Addr) (xn xc yn yc:Nat),x = .slice xa xn xc/\y = .slice ya yn yc/\Mag W (.slice xa xn xc) X/\Mag W (.slice ya yn yc) Y/\Y<=gk/\Nat.gcd X Y=Int.gcd a b/\Fd X/\Fd Y/\Ext w W)
  case atStart=>exact ⟨a.natAbs,b.natAbs,_,_,_,_,_,_,rfl,rfl,ma.ext e4,mb,Nat.le_refl _,rfl,HA.out,HB.out,(e12.trans e3).trans e4⟩
  case round =>
   obtain ⟨X,Y,xa,ya,xn,xc,yn,yc,rfl,rfl,mx,my,hk,hgc,fx,fy,hx⟩:=hrel;have hl:=my.len_iff;have HMX:=Hi19 mx;have HMY:=Hi19 my;have HGC:=Hi19 hgc;have HFX:=Hi19 fx;have HFY:=Hi19 fy;clear mx my hgc fx fy;by_cases h0:yn=0
   ·have hY:=hl.1 h0;subst h0;subst hY;have hf:Int.gcd a b=X:=by rw [← HGC.out,Nat.gcd_zero_right]
    have HF:=Hi19 hf;clear hf hl;go_wp2_with (go_at_call 171;refine (close_c false X _ _ _ _ HMX.out HFX.out.fit.five (HG.out.ext hx)).mono ?_;rintro e w9 ⟨rfl,e9⟩);go_ret;exact ⟨ret_str (by rw [HF.out];rfl),hx.trans e9⟩
   ·have hY:0<Y:=by
     rcases Nat.eq_zero_or_pos Y with h|h
     ·exact absurd (hl.2 h) h0
     ·exact h
    have hyn:0<yn:=by omega
    have hmod:=Nat.mod_lt X hY;have HY:=Hi19 hY;clear hl hY;go_wp2_with (go_at_call 246;refine (divide_c X Y _ _ _ HMX.out HMY.out HY.out HFX.out).mono ?_;rintro e w5 ⟨vq,vr,rfl,e5,mq,mr⟩;obtain ⟨qa,ql,qc,rfl⟩:=mq.slice;obtain ⟨ra,rl,rc,rfl⟩:=mr.slice);go_roundg (X % Y)
    case rel=>exact ⟨Y,X % Y,ya,ra,yn,yc,rl,rc,rfl,rfl,HMY.out.ext e5,mr,Nat.le_refl _,by rw [← HGC.out,Nat.gcd_comm,← Nat.gcd_rec,Nat.gcd_comm],HFY.out,HFX.out.mono (Nat.mod_le _ _),hx.trans e5⟩
    case measure=>omega
theorem gcd_c (a b:Int) {k m:Nat} (w:World) (g:Gd w) (ha:IB k a) (hb:IB m b) (hk:k<=9000) (hm:m<=9000):Calls Tryz.prog 182 #[.string (zs a),.string (zs b)] w (Ret w (.string (zs (Int.gcd a b)))):=by
 by_cases h:(zl a).length<=18/\(zl b).length<=18
 ·exact gcd_small a b w g h.1 h.2
 ·exact gcd_big a b w g ha hb hk hm h
theorem indexByte_none {c:UInt8}:∀ {l:List UInt8},c ∉ l->Lib.indexByte l c=-1
 | [],_=>rfl
 | b :: l,h=>by
  have h1:(b == c)=false:=by simpa using fun e=>h (by simp [e])
  simp [Lib.indexByte,h1,indexByte_none (fun e=>h (List.mem_cons_of_mem _ e))]
theorem indexByte_at {c:UInt8} {y:List UInt8}:∀ {x:List UInt8},c ∉ x->Lib.indexByte (x ++ c :: y) c=x.length
 | [],_=>by simp [Lib.indexByte]
 | b :: x,h=>by
  have h1:(b == c)=false:=by simpa using fun e=>h (by simp [e])
  have ih:=indexByte_at (y:=y) (fun e=>h (List.mem_cons_of_mem _ e));have h2:((x.length:Int) == -1)=false:=by simp
  simp only [List.cons_append,Lib.indexByte,h1,ih,h2];simp
theorem slash_cases (l:List UInt8):(47:UInt8) ∉ l∨∃ x y,l=x ++ 47 :: y/\(47:UInt8) ∉ x:=by
 induction l with
 | nil=>exact Or.inl (by simp)
 | cons b t ih =>
  by_cases h:b=47
  ·subst h;exact Or.inr ⟨[],t,rfl,by simp⟩
  ·rcases ih with ih|⟨x,y,rfl,hx⟩
   ·exact Or.inl (by simp [ih,Ne.symm h])
   ·exact Or.inr ⟨b :: x,y,rfl,by simp [hx,Ne.symm h]⟩
theorem arr_list (s:ByteArray):s=⟨s.data.toList.toArray⟩:=by apply bytes_ext;simp
set_option maxHeartbeats 1000000 in
theorem scut_none (s:ByteArray) (w:World) (h:(47:UInt8) ∉ s.data.toList) :
    Calls Tryz.prog 232 #[.string s,.string ⟨#[47]⟩] w fun e w'=>e = .returned (.tuple #[.string s,.string ⟨#[]⟩,.bool false])/\Ext w w':=by
 have hi:=indexByte_none h;have HI:=Hi19 hi;clear hi h;go_enter Tryz.func232,Tryz.ntmps232;go_wp2_with (go_at_call 264;refine (Tryz.stringslite_Index_one s 47 _).mono ?_;rw [HI.out];rintro e w' ⟨rfl,rfl⟩);go_ret3;exact ⟨rfl,Ext.refl _⟩
theorem cut_left (x y:List UInt8):(⟨(x ++ 47 :: y).toArray⟩:ByteArray).extract 0 x.length=⟨x.toArray⟩:=by
 apply bytes_ext;rw [extract_list];simp
theorem cut_right (x y:List UInt8):(⟨(x ++ 47 :: y).toArray⟩:ByteArray).extract (x.length+1) (⟨(x ++ 47 :: y).toArray⟩:ByteArray).size=⟨y.toArray⟩:=by
 apply bytes_ext;rw [extract_list];have:(⟨(x ++ 47 :: y).toArray⟩:ByteArray).size=x.length+1+y.length:=by (simp [ByteArray.size]);try omega
 rw [this,show x ++ 47 :: y=(x ++ [47]) ++ y by simp,show x.length+1=(x ++ [(47:UInt8)]).length by simp,List.drop_left];simp
set_option maxHeartbeats 1000000 in
theorem scut_at (s:ByteArray) (x y:List UInt8) (w:World) (hs:s.data.toList=x ++ 47 :: y) (h:(47:UInt8) ∉ x) (hl:s.size<=1000000) :
    Calls Tryz.prog 232 #[.string s,.string ⟨#[47]⟩] w fun e w'=>e = .returned (.tuple #[.string ⟨x.toArray⟩,.string ⟨y.toArray⟩,.bool true])/\Ext w w':=by
 have hi:Lib.indexByte s.data.toList 47=x.length:=by rw [hs];exact indexByte_at h
 have hsz:x.length+1<=s.size:=by
  have:s.size=s.data.toList.length:=by rw [Array.length_toList];rfl
  rw [this,hs];simp
 have hcl:=cut_left x y;have hcr:=cut_right x y;rw [show (⟨(x ++ 47 :: y).toArray⟩:ByteArray)=s by rw [← hs]] at hcl hcr;obtain ⟨n,hn⟩:∃ n,n=x.length:=⟨_,rfl⟩
 rw [← hn] at hi hsz hcl hcr;have HI:=Hi19 hi;have HL:=Hi19 hcl;have HR:=Hi19 hcr;clear hi h hs hn hcl hcr;have hsz':(n:Int)+1<=(s.size:Int):=by omega
 have hsz2:(n:Int)<=(s.size:Int):=by omega
 go_enter Tryz.func232,Tryz.ntmps232;go_wp2_with (go_at_call 264;refine (Tryz.stringslite_Index_one s 47 _).mono ?_;rw [HI.out];rintro e w' ⟨rfl,rfl⟩);go_region
 all_goals
  go_wp2;go_ret3;exact ⟨by rw [← HL.out,← HR.out];rfl,(Ext.refl _).drew⟩
theorem cut_none (s:ByteArray) (w:World) (h:(47:UInt8) ∉ s.data.toList) :
    Calls Tryz.prog 163 #[.string s,.string ⟨#[47]⟩] w (Ret w (.tuple #[.string s,.string ⟨#[]⟩,.bool false])):=by
 go_enter Tryz.func163,Tryz.ntmps163;go_wp2_with (go_at_call 232;refine (scut_none s _ h).mono ?_;rintro e w' ⟨rfl,e1⟩);go_ret3;exact ⟨rfl,e1⟩
theorem cut_at (s:ByteArray) (x y:List UInt8) (w:World) (hs:s.data.toList=x ++ 47 :: y) (h:(47:UInt8) ∉ x) (hl:s.size<=1000000) :
    Calls Tryz.prog 163 #[.string s,.string ⟨#[47]⟩] w (Ret w (.tuple #[.string ⟨x.toArray⟩,.string ⟨y.toArray⟩,.bool true])):=by
 have HS:=Hi19 hs;have H:=Hi19 h;clear hs h;go_enter Tryz.func163,Tryz.ntmps163;go_wp2_with (go_at_call 232;refine (scut_at s x y _ HS.out H.out hl).mono ?_;rintro e w' ⟨rfl,e1⟩);go_ret3;exact ⟨rfl,e1⟩
theorem QB.len {k:Nat} {q:Rat} (h:QB k q) (hk:k<=9000):(qs q).size<=1000000:=by
 rw [qs_size];have h1:=zl_len_le (n:=q.num) (k:=k+1) (by omega) (Nat.lt_of_lt_of_le h.num (Nat.pow_le_pow_right (by decide) (by omega)));have h2:=dec_len_le (u:=q.den) (k:=k+1) (by omega) (Nat.lt_of_lt_of_le h.den (Nat.pow_le_pow_right (by decide) (by omega)));unfold ql;split
 ·omega
 ·simp;omega
theorem parts_c (q:Rat) {k:Nat} (w:World) (hq:QB k q) (hk:k<=9000) :
    Calls Tryz.prog 86 #[.string (qs q)] w (Ret w (.tuple #[.string (zs q.num),.string (zs q.den)])):=by
 have hl:=hq.len hk;by_cases h:q.den=1
 ·have e1:qs q=zs q.num:=by unfold qs zs;rw [ql_one h]
  have e2:zs (q.den:Int)=⟨#[49]⟩:=by rw [h];exact zs_one
  rw [e1,e2];have hns:(47:UInt8) ∉ (zs q.num).data.toList:=by rw [zs_list];exact zl_no_slash _
  have H:=Hi19 hns;clear e1 e2 hns h hq hl;go_enter Tryz.func86,Tryz.ntmps86;go_wp2_with (go_at_call 163;refine (cut_none _ _ H.out).mono ?_;rintro e w' ⟨rfl,e1⟩);go_ret2;exact ⟨rfl,e1⟩
 ·have hns:=zl_no_slash q.num;have e1:(qs q).data.toList=zl q.num ++ 47 :: Lib.decDigits q.den:=by rw [qs_list,ql_frac h]
  have e2:zs (q.den:Int)=⟨(Lib.decDigits q.den).toArray⟩:=by unfold zs;rw [zl_nat]
  have e3:zs q.num=⟨(zl q.num).toArray⟩:=rfl;rw [e2,e3];have H:=Hi19 hns;have E:=Hi19 e1;clear e1 e2 e3 hns h hq;go_enter Tryz.func86,Tryz.ntmps86;go_wp2_with (go_at_call 163;refine (cut_at _ _ _ _ E.out H.out hl).mono ?_;rintro e w' ⟨rfl,e1⟩);go_ret2;exact ⟨rfl,e1⟩
theorem zs_size_le {k:Nat} {n:Int} (h:IB k n) (hk:k<=9000):(zs n).size<=100000:=by rw [zs_size];exact h.len hk
theorem join_bytes (n:Int) (d:Nat):(zs n ++ (⟨#[47]⟩:ByteArray)) ++ zs (d:Int)=⟨(zl n ++ 47 :: Lib.decDigits d).toArray⟩:=by
 apply bytes_ext;rw [ByteArray.data_append,Array.toList_append,ByteArray.data_append,Array.toList_append,zs_list,zs_list,zl_nat];simp
theorem join_c (n:Int) (d:Nat) {k m:Nat} (w:World) (hn:IB k n) (hd:IB m (d:Int)) (hk:k<=9000) (hm:m<=9000) :
    Calls Tryz.prog 249 #[.string (zs n),.string (zs (d:Int))] w fun e w'=>e = .returned (.string ⟨(joinl n d).toArray⟩)/\w=w':=by
 have l1:=zs_size_le hn hk;have l2:=zs_size_le hd hm;by_cases h:d=1
 ·have h1:=zs_is1 (n:=(d:Int)) (by omega);have e:(⟨(joinl n d).toArray⟩:ByteArray)=zs n:=by unfold joinl;rw [if_pos h];rfl
  have E:=Hi19 e;clear h e;go_enter Tryz.func249,Tryz.ntmps249;go_wp2;go_ret;exact ⟨by rw [E.out];rfl,rfl⟩
 ·have h1:=zs_not1 (n:=(d:Int)) (by omega);have e:(⟨(joinl n d).toArray⟩:ByteArray)=(zs n ++ (⟨#[47]⟩:ByteArray)) ++ zs (d:Int):=by unfold joinl;rw [if_neg h,join_bytes]
  have E:=Hi19 e;clear h e;go_enter Tryz.func249,Tryz.ntmps249;go_wp2;go_ret;exact ⟨by rw [E.out];rfl,rfl⟩
theorem zs_nis1 {n:Int} (h:n=1):((zs n).toList != [49])=false:=by rw [zs_toList,zl_eq1.2 h];rfl
theorem zs_nnot1 {n:Int} (h:n≠1):((zs n).toList != [49])=true:=by rw [zs_toList];simpa using fun e=>h (zl_eq1.1 e)
theorem QB.numIB {k:Nat} {q:Rat} (h:QB k q):IB k q.num:=⟨h.num⟩
theorem QB.denIB {k:Nat} {q:Rat} (h:QB k q):IB k (q.den:Int):=⟨by rw [Int.natAbs_natCast];exact h.den⟩
theorem low_facts (n:Int) (d:Nat) (hd:d≠0) {k m:Nat} (hn:IB k n) (hdb:IB m (d:Int)) :
    IB m (Int.gcd n d:Int)/\IB k (n / (Int.gcd n d:Int))/\IB m ((d / Int.gcd n d:Nat):Int)/\(d:Int) / (Int.gcd n d:Int)=((d / Int.gcd n d:Nat):Int)/\(Int.gcd n d:Int)≠0 /\
     (⟨(joinl (n / (Int.gcd n d:Int)) (d / Int.gcd n d)).toArray⟩:ByteArray)=qs (mkRat n d):=by
 have hg0:Int.gcd n d≠0:=Int.gcd_ne_zero_right (by omega);have hgd:Int.gcd n d<=d:=by have:=Int.gcd_le_natAbs_right n (b:=(d:Int)) (by omega);simpa using this
 refine ⟨hdb.of_le (by simpa using hgd),hn.of_le (Int.natAbs_ediv_le_natAbs _ _),hdb.of_le (by simp only [Int.natAbs_natCast];exact Nat.div_le_self _ _),by simp,by omega,?_⟩;have e:=ql_mkRat (n:=n) (d:=d) (g:=Int.gcd n d) hd rfl;unfold qs;rw [e,Int.tdiv_eq_ediv_of_dvd (Int.gcd_dvd_left _ _)]
set_option maxHeartbeats 1000000 in
theorem lowest_pos (n:Int) (d:Nat) (hd:d≠0) {k m:Nat} (w:World) (g:Gd w) (hn:IB k n) (hdb:IB m (d:Int)) (hk:k<=8000) (hm:m<=8000) :
    Calls Tryz.prog 188 #[.string (zs n),.string (zs (d:Int))] w (Ret w (.string (qs (mkRat n d)))):=by
 obtain ⟨f1,f2,f3,f4,f5,f6⟩:=low_facts n d hd hn hdb;have hs:(d:Int).sign=1:=Int.sign_eq_one_of_pos (by omega);obtain ⟨G,hG⟩:∃ G:Nat,G=Int.gcd n d:=⟨_,rfl⟩
 rw [← hG] at f1 f2 f3 f4 f5 f6;rw [← f6];have HF1:=Hi19 f1;have HF2:=Hi19 f2;have HF3:=Hi19 f3;have HF4:=Hi19 f4;have HF5:=Hi19 f5;have HG:=Hi19 hG;have HN:=Hi19 hn;have HD:=Hi19 hdb;have HS:=Hi19 hs;have HGD:=Hi19 g;by_cases h1:(G:Int)=1
 ·have g1:=zs_is1 h1;have g2:=zs_nis1 h1;have e1:(⟨(joinl (n / (G:Int)) (d / G)).toArray⟩:ByteArray)=⟨(joinl n d).toArray⟩:=by
   have:G=1:=by omega
   subst this;simp
  have E1:=Hi19 e1;clear f1 f2 f3 f4 f5 f6 hG hn hdb hs g h1 e1 hd;go_enter Tryz.func188,Tryz.ntmps188;go_wp2_with (first
   | (go_at_call 164;refine (sign_c _ _).mono ?_;rw [HS.out];rintro e w' ⟨rfl,rfl⟩)
   | (go_at_call 182;refine (gcd_c _ _ _ HGD.out HN.out HD.out (by omega) (by omega)).mono ?_;rw [← HG.out];rintro e w1 ⟨rfl,e1⟩)
   | (go_at_call 249;refine (join_c _ _ _ HN.out HD.out (by omega) (by omega)).mono ?_;rintro e w' ⟨rfl,rfl⟩))
  go_ret;exact ⟨by rw [E1.out];rfl,e1⟩
 ·have g1:=zs_not1 h1;have g2:=zs_nnot1 h1;clear f1 f2 f3 f4 f5 f6 hG hn hdb hs g h1 hd;go_enter Tryz.func188,Tryz.ntmps188;go_wp2_with (first
   | (go_at_call 164;refine (sign_c _ _).mono ?_;rw [HS.out];rintro e w' ⟨rfl,rfl⟩)
   | (go_at_call 182;refine (gcd_c _ _ _ HGD.out HN.out HD.out (by omega) (by omega)).mono ?_;rw [← HG.out];rintro e w1 ⟨rfl,e1⟩)
   | (go_at_call 228;((with_reducible refine (divmod_c n (G:Int) w1 (HGD.out.ext e1) HN.out HF1.out (by omega) (by omega) HF5.out).mono ?_);rintro e w2 ⟨rfl,e2⟩))
   | (go_at_call 228;refine (divmod_c (d:Int) (G:Int) _ (HGD.out.ext (e1.trans e2)) HD.out HF1.out (by omega) (by omega) HF5.out).mono ?_;rw [HF4.out];rintro e w3 ⟨rfl,e3⟩)
   | (go_at_call 249;refine (join_c _ _ _ HF2.out HF3.out (by omega) (by omega)).mono ?_;rintro e w' ⟨rfl,rfl⟩))
  go_ret;exact ⟨rfl,(e1.trans e2).trans e3⟩
def sval (s:ByteArray) (a i:Nat):Nat:=val ((s.data.toList.drop a).take (i-a))
theorem sval_start (s:ByteArray) (a:Nat):sval s a a=0:=by simp [sval,val,valFrom]
theorem sval_step (s:ByteArray) (a i:Nat) (h:a<=i) (hi:i<s.size):sval s a (i+1)=10*sval s a i+(s[i].toNat-48):=by
 unfold sval;have hl:i-a<(s.data.toList.drop a).length:=by
  rw [List.length_drop,Array.length_toList];have:s.data.size=s.size:=rfl;omega
 rw [show i+1-a=(i-a)+1 by omega,List.take_succ_eq_append_getElem hl,val_append,val_single,List.getElem_drop,bytes_getElem s i hi];simp only [show a+(i-a)=i by omega,List.length_singleton,Nat.pow_one];omega
def DgAt (s:ByteArray) (a e:Nat):Prop:=∀ i,a<=i->i<e->∃ h:i<s.size,48<=(s[i].toNat:Int)/\(s[i].toNat:Int)<=57
theorem sval_lt (s:ByteArray) (a e i:Nat) (hd:DgAt s a e) (h:a<=i) (hi:i<=e):sval s a i<10 ^ (i-a):=by
 induction i with
 | zero => obtain rfl : a = 0 := by omega
           rw [sval_start];decide
 | succ i ih =>
  by_cases h0:a=i+1
  ·subst h0;rw [sval_start];exact Nat.pow_pos (by decide)
  ·have:=ih (by omega) (by omega);obtain ⟨hs,h1,h2⟩:=hd i (by omega) (by omega);rw [sval_step s a i (by omega) hs,show i+1-a=(i-a)+1 by omega,Nat.pow_succ];omega
theorem sval_bd (s:ByteArray) (a e i:Nat) (hd:DgAt s a e) (h:a<=i) (hi:i<=e) (h9:i<a+9):sval s a i<100000000 :=
 Nat.lt_of_lt_of_le (sval_lt s a e i hd h hi) (by
  have:10 ^ (i-a)<=10 ^ 8:=Nat.pow_le_pow_right (by decide) (by omega);exact this)
set_option maxHeartbeats 4000000 in
theorem rquick_go (s:ByteArray) (b0 e1:Nat) (mi fr:Bool) (w:World) (r1 r2:Int) (r3:Bool) (hsz:s.size<=1000000) (hs0:0<s.size)
    (hmi:(mi=true/\b0=1/\(s[0].toNat:Int)=45)∨(mi=false/\b0=0/\¬ (s[0].toNat:Int)=45))
    (hd1:DgAt s b0 e1) (h01:b0<e1)
    (hfr:(fr=true/\∃ h:e1<s.size,(s[e1].toNat:Int)=47)∨(fr=false/\e1=s.size)) (hd2:DgAt s (e1+1) s.size)
    (hr:Hid ((e1<=b0+9/\(fr=true->s.size<=e1+1+9)->r1=(if mi then -(sval s b0 e1:Int) else sval s b0 e1)/\r2=(if fr then (sval s (e1+1) s.size:Int) else 1)/\r3=true) /\
     (¬ (e1<=b0+9/\(fr=true->s.size<=e1+1+9))->r1=0/\r2=0/\r3=false))) :
    Calls Tryz.prog 85 #[.string s] w fun e w'=>e = .returned (.tuple #[.int .i64 r1,.int .i64 r2,.bool r3])/\w=w':=by
 have HD1:=Hi19 hd1;have HD2:=Hi19 hd2;have HFR:=Hi19 hfr;have hes:e1<=s.size:=by rcases hfr with ⟨_,h,_⟩|⟨_,h⟩ <;> omega
 have hs0':(0:Int)<s.size:=by omega
 clear hd1 hd2 hfr;rcases hmi with ⟨rfl,rfl,hm⟩|⟨rfl,rfl,hm⟩
 ·go_enter Tryz.func85,Tryz.ntmps85;go_wp2;go_loop [2,3,5] (fun n z i=>∃ (k N:Nat),1<=k/\k<=e1/\k<=1+9/\z = .int .i64 0/\i = .int .i64 k/\n = .int .i64 N/\N<1000000000/\Hid (N=sval s 1 k)) (fun _ _ i=>s.size-(intOf i).toNat)
  case atStart=>exact ⟨1,0,Nat.le_refl _,by omega,by omega,rfl,rfl,rfl,by omega,Hi19 (sval_start s _).symm⟩
  case round =>
   obtain ⟨k,N,hb,hke,hk9,rfl,rfl,rfl,hN,HN⟩:=hrel;by_cases hk:k<e1
   ·obtain ⟨hks,d1,d2⟩:=HD1.out k hb hk;have hne:¬ (s[k].toNat:Int)=47:=by omega
    by_cases h9:k=1+9
    ·obtain ⟨rfl,rfl,rfl⟩:=hr.out.2 (by omega);have h9a:1+9<=k:=by omega
     clear h9;go_wp2;go_ret3;exact ⟨rfl,rfl⟩
    ·have hN8:N<100000000:=by rw [HN.out];exact sval_bd s 1 e1 k HD1.out hb hke (by omega)
     have hst:=sval_step s 1 k hb hks;have HST:=Hi19 hst;clear hst;have h9':¬ ((k:Int)-1=9):=by omega
     go_wp2;go_round
     case rel=>exact ⟨k+1,10*N+(s[k].toNat-48),by omega,by omega,by omega,rfl,by go_num,by simp only [Value.int.injEq,true_and];omega,by omega,Hi19 (by rw [HST.out,HN.out])⟩
     case measure=>simp [intOf];omega
   ·obtain rfl:k=e1:=by omega
    rcases HFR.out with ⟨rfl,h47s,h47⟩|⟨rfl,he⟩
    ·have h47i:(k:Int)<s.size:=by omega
     go_wp2;go_loop [2,3,5] (fun z n i=>∃ (j M:Nat),k+1<=j/\j<=s.size/\j<=k+1+9/\z = .int .i64 (-(N:Int))/\i = .int .i64 j/\n = .int .i64 M/\M<1000000000/\Hid (M=sval s (k+1) j)) (fun _ _ i=>s.size-(intOf i).toNat)
     case atStart=>exact ⟨k+1,0,Nat.le_refl _,by omega,by omega,rfl,by go_num,rfl,by omega,Hi19 (sval_start s _).symm⟩
     case round =>
      obtain ⟨j,M,hb',hje,hj9,rfl,rfl,rfl,hM,HM⟩:=hrel;by_cases hj:j<s.size
      ·obtain ⟨hjs,d1,d2⟩:=HD2.out j hb' hj;by_cases h9:j=k+1+9
       ·obtain ⟨rfl,rfl,rfl⟩:=hr.out.2 (by intro h;have:=h.2 (by first|rfl|trivial);omega);have h9a:k+1+9<=j:=by omega
        clear h9;go_wp2;go_ret3;exact ⟨rfl,rfl⟩
       ·have hM8:M<100000000:=by rw [HM.out];exact sval_bd s (k+1) s.size j HD2.out hb' hje (by omega)
        have hst:=sval_step s (k+1) j hb' hjs;have HST:=Hi19 hst;clear hst;have h9':¬ ((j:Int)-((k:Int)+1)=9):=by omega
        go_wp2;go_round
        case rel=>exact ⟨j+1,10*M+(s[j].toNat-48),by omega,by omega,by omega,rfl,by go_num,by simp only [Value.int.injEq,true_and];omega,by omega,Hi19 (by rw [HST.out,HM.out])⟩
        case measure=>simp [intOf];omega
      ·obtain rfl:s.size=j:=by omega
       have hfin:=hr.out.1 ⟨by omega,fun _=>by omega⟩;rw [← HN.out,← HM.out] at hfin;have HF:Hid (r1=-(N:Int)/\r2=M/\r3=true):=Hi19 (by simpa using hfin);clear hfin;go_wp2;go_ret3;exact ⟨by rw [HF.out.1,HF.out.2.1,HF.out.2.2];rfl,rfl⟩
    ·have hfin:=hr.out.1 ⟨by omega,fun h=>by cases h⟩;rw [← HN.out] at hfin;have HF:Hid (r1=-(N:Int)/\r2=1/\r3=true):=Hi19 (by simpa using hfin);have he':¬ ((k:Int)<s.size):=by omega
     have he2:(k:Int)=s.size:=by omega
     clear hfin;subst he;go_wp2;go_ret3;exact ⟨by rw [HF.out.1,HF.out.2.1,HF.out.2.2];rfl,rfl⟩
 ·go_enter Tryz.func85,Tryz.ntmps85;go_wp2;go_loop [2,3,5] (fun n z i=>∃ (k N:Nat),0<=k/\k<=e1/\k<=0+9/\z = .int .i64 0/\i = .int .i64 k/\n = .int .i64 N/\N<1000000000/\Hid (N=sval s 0 k)) (fun _ _ i=>s.size-(intOf i).toNat)
  case atStart=>exact ⟨0,0,Nat.le_refl _,by omega,by omega,rfl,rfl,rfl,by omega,Hi19 (sval_start s _).symm⟩
  case round =>
   obtain ⟨k,N,hb,hke,hk9,rfl,rfl,rfl,hN,HN⟩:=hrel;by_cases hk:k<e1
   ·obtain ⟨hks,d1,d2⟩:=HD1.out k hb hk;have hne:¬ (s[k].toNat:Int)=47:=by omega
    by_cases h9:k=0+9
    ·obtain ⟨rfl,rfl,rfl⟩:=hr.out.2 (by omega);have h9a:0+9<=k:=by omega
     clear h9;go_wp2;go_ret3;exact ⟨rfl,rfl⟩
    ·have hN8:N<100000000:=by rw [HN.out];exact sval_bd s 0 e1 k HD1.out hb hke (by omega)
     have hst:=sval_step s 0 k hb hks;have HST:=Hi19 hst;clear hst;have h9':¬ ((k:Int)-0=9):=by omega
     go_wp2;go_round
     case rel=>exact ⟨k+1,10*N+(s[k].toNat-48),by omega,by omega,by omega,rfl,by go_num,by simp only [Value.int.injEq,true_and];omega,by omega,Hi19 (by rw [HST.out,HN.out])⟩
     case measure=>simp [intOf];omega
   ·obtain rfl:k=e1:=by omega
    rcases HFR.out with ⟨rfl,h47s,h47⟩|⟨rfl,he⟩
    ·have h47i:(k:Int)<s.size:=by omega
     go_wp2;go_loop [2,3,5] (fun z n i=>∃ (j M:Nat),k+1<=j/\j<=s.size/\j<=k+1+9/\z = .int .i64 ((N:Int))/\i = .int .i64 j/\n = .int .i64 M/\M<1000000000/\Hid (M=sval s (k+1) j)) (fun _ _ i=>s.size-(intOf i).toNat)
     case atStart=>exact ⟨k+1,0,Nat.le_refl _,by omega,by omega,rfl,by go_num,rfl,by omega,Hi19 (sval_start s _).symm⟩
     case round =>
      obtain ⟨j,M,hb',hje,hj9,rfl,rfl,rfl,hM,HM⟩:=hrel;by_cases hj:j<s.size
      ·obtain ⟨hjs,d1,d2⟩:=HD2.out j hb' hj;by_cases h9:j=k+1+9
       ·obtain ⟨rfl,rfl,rfl⟩:=hr.out.2 (by intro h;have:=h.2 (by first|rfl|trivial);omega);have h9a:k+1+9<=j:=by omega
        clear h9;go_wp2;go_ret3;exact ⟨rfl,rfl⟩
       ·have hM8:M<100000000:=by rw [HM.out];exact sval_bd s (k+1) s.size j HD2.out hb' hje (by omega)
        have hst:=sval_step s (k+1) j hb' hjs;have HST:=Hi19 hst;clear hst;have h9':¬ ((j:Int)-((k:Int)+1)=9):=by omega
        go_wp2;go_round
        case rel=>exact ⟨j+1,10*M+(s[j].toNat-48),by omega,by omega,by omega,rfl,by go_num,by simp only [Value.int.injEq,true_and];omega,by omega,Hi19 (by rw [HST.out,HM.out])⟩
        case measure=>simp [intOf];omega
      ·obtain rfl:s.size=j:=by omega
       have hfin:=hr.out.1 ⟨by omega,fun _=>by omega⟩;rw [← HN.out,← HM.out] at hfin;have HF:Hid (r1=(N:Int)/\r2=M/\r3=true):=Hi19 (by simpa using hfin);clear hfin;go_wp2;go_ret3;exact ⟨by rw [HF.out.1,HF.out.2.1,HF.out.2.2];rfl,rfl⟩
    ·have hfin:=hr.out.1 ⟨by omega,fun h=>by cases h⟩;rw [← HN.out] at hfin;have HF:Hid (r1=(N:Int)/\r2=1/\r3=true):=Hi19 (by simpa using hfin);have he':¬ ((k:Int)<s.size):=by omega
     have he2:(k:Int)=s.size:=by omega
     clear hfin;subst he;go_wp2;go_ret3;exact ⟨by rw [HF.out.1,HF.out.2.1,HF.out.2.2];rfl,rfl⟩
def ShQ (q:Rat):Prop:=q.num.natAbs<1000000000/\q.den<1000000000
theorem dgAt_mid {s:ByteArray} {a d z:List UInt8} (h:s.data.toList=a ++ d ++ z) (hd:∀ b ∈ d,isDig b=true):DgAt s a.length (a.length+d.length):=by
 intro i h1 h2;have hsz:s.size=(a ++ d ++ z).length:=by rw [← h,Array.length_toList];rfl
 have hi:i<s.size:=by rw [hsz];simp;omega
 refine ⟨hi,?_⟩;have e:s[i]=d[i-a.length]'(by omega):=by
  rw [bytes_getElem s i hi];simp only [h];rw [List.getElem_append_left (by simp;omega),List.getElem_append_right (by omega)]
 have:=(isDig_iff _).1 (hd _ (List.getElem_mem (show i-a.length<d.length by omega)));rw [e];omega
theorem sval_mid {s:ByteArray} {a d z:List UInt8} (h:s.data.toList=a ++ d ++ z):sval s a.length (a.length+d.length)=val d:=by
 unfold sval;rw [h,List.append_assoc,List.drop_left,Nat.add_sub_cancel_left,List.take_left]
theorem size_list (s:ByteArray):s.size=s.data.toList.length:=by rw [Array.length_toList];rfl
theorem ql_parts (q:Rat):∃ (mi fr:Bool) (a z:List UInt8),ql q=a ++ Lib.decDigits q.num.natAbs ++ z /\
    ((mi=true/\a=[45]/\q.num<0)∨(mi=false/\a=[]/\0<=q.num))/\((fr=true/\z=47 :: Lib.decDigits q.den/\q.den≠1)∨(fr=false/\z=[]/\q.den=1)):=by
 have e:∃ (mi:Bool) (a:List UInt8),zl q.num=a ++ Lib.decDigits q.num.natAbs/\((mi=true/\a=[45]/\q.num<0)∨(mi=false/\a=[]/\0<=q.num)):=by
  rcases Int.lt_or_le q.num 0 with h|h
  ·exact ⟨true,[45],zl_neg h,Or.inl ⟨rfl,rfl,h⟩⟩
  ·exact ⟨false,[],zl_pos h,Or.inr ⟨rfl,rfl,h⟩⟩
 obtain ⟨mi,a,e1,e2⟩:=e;by_cases h:q.den=1
 ·exact ⟨mi,false,a,[],by rw [ql_one h,e1,List.append_nil],e2,Or.inr ⟨rfl,rfl,h⟩⟩
 ·exact ⟨mi,true,a,_,by rw [ql_frac h,e1],e2,Or.inl ⟨rfl,rfl,h⟩⟩
theorem dec_len9 (n:Nat):(Lib.decDigits n).length<=9 ↔ n<1000000000 :=
 ⟨fun h=>lt_of_dec_len (k:=9) h,fun h=>dec_len_le (k:=9) (by decide) h⟩
theorem quickq_go (q:Rat) {k:Nat} (w:World) (hq:QB k q) (hk:k<=9000) (r1 r2:Int) (r3:Bool) (hr:Hid ((ShQ q->r1=q.num/\r2=q.den/\r3=true)/\(¬ ShQ q->r1=0/\r2=0/\r3=false))) :
    Calls Tryz.prog 85 #[.string (qs q)] w fun e w'=>e = .returned (.tuple #[.int .i64 r1,.int .i64 r2,.bool r3])/\w=w':=by
 have hl:=hq.len hk;obtain ⟨mi,fr,a,z,e,hmi,hfr⟩:=ql_parts q;have es:(qs q).data.toList=a ++ Lib.decDigits q.num.natAbs ++ z:=by rw [qs_list,e]
 have hd:=dec_digs q.num.natAbs;have hne:=dec_len_pos q.num.natAbs;have hsz:(qs q).size=a.length+(Lib.decDigits q.num.natAbs).length+z.length:=by rw [size_list,es];simp;omega
 have h0:0<(qs q).size:=by omega
 have hsv:=sval_mid es;rw [dec_val] at hsv;have hal:a.length=if mi then 1 else 0:=by rcases hmi with ⟨rfl,rfl,_⟩|⟨rfl,rfl,_⟩ <;> rfl
 have hz2:DgAt (qs q) (a.length+(Lib.decDigits q.num.natAbs).length+1) (qs q).size/\(fr=true->sval (qs q) (a.length+(Lib.decDigits q.num.natAbs).length+1) (qs q).size=q.den):=by
  rcases hfr with ⟨rfl,rfl,_⟩|⟨rfl,rfl,_⟩
  ·have es2:(qs q).data.toList=(a ++ Lib.decDigits q.num.natAbs ++ [47]) ++ Lib.decDigits q.den ++ []:=by rw [es];simp
   have h1:=dgAt_mid es2 (dec_digs q.den);have h2:=sval_mid es2;rw [dec_val] at h2;have e1:(a ++ Lib.decDigits q.num.natAbs ++ [47]).length=a.length+(Lib.decDigits q.num.natAbs).length+1:=by simp;omega
   rw [e1] at h1 h2;have e2:a.length+(Lib.decDigits q.num.natAbs).length+1+(Lib.decDigits q.den).length=(qs q).size:=by rw [hsz];simp;omega
   rw [e2] at h1 h2;exact ⟨h1,fun _=>h2⟩
  ·exact ⟨fun i h1 h2=>by rw [hsz] at h2;simp at h2;omega,fun h=>by cases h⟩
 have key:ShQ q ↔ (a.length+(Lib.decDigits q.num.natAbs).length<=a.length+9/\(fr=true->(qs q).size<=a.length+(Lib.decDigits q.num.natAbs).length+1+9)):=by
  unfold ShQ;rw [← dec_len9,← dec_len9,hsz];rcases hfr with ⟨rfl,rfl,_⟩|⟨rfl,rfl,h1⟩
  ·simp;omega
  ·simp only [h1,dec_one];simp
 refine rquick_go (qs q) a.length (a.length+(Lib.decDigits q.num.natAbs).length) mi fr w r1 r2 r3 hl h0 ?_ (dgAt_mid es hd) (by omega) ?_ hz2.1 (Hi19 ⟨fun h=>?_,fun h=>hr.out.2 (fun e=>h (key.1 e))⟩)
 ·rcases hmi with ⟨rfl,rfl,_⟩|⟨rfl,rfl,hn⟩
  ·refine Or.inl ⟨rfl,rfl,?_⟩;rw [bytes_getElem _ 0 h0];simp only [es];rfl
  ·refine Or.inr ⟨rfl,rfl,?_⟩;obtain ⟨_,h1,_⟩:=dgAt_mid es hd 0 (by simp) (by simp;omega);omega
 ·rcases hfr with ⟨rfl,rfl,_⟩|⟨rfl,rfl,_⟩
  ·refine Or.inl ⟨rfl,by rw [hsz];simp,?_⟩;rw [bytes_getElem _ _ (by rw [hsz];simp)];simp only [es];rw [List.getElem_append_right (by simp)];simp
  ·exact Or.inr ⟨rfl,by rw [hsz];simp⟩
 ·obtain ⟨g1,g2,g3⟩:=hr.out.1 (key.2 h);refine ⟨?_,?_,g3⟩
  ·rw [g1,hsv];rcases hmi with ⟨rfl,rfl,hn⟩|⟨rfl,rfl,hn⟩ <;> simp <;> omega
  ·rw [g2];rcases hfr with ⟨rfl,rfl,_⟩|⟨rfl,rfl,h1⟩
   ·rw [hz2.2 rfl];rfl
   ·simp [h1]
theorem quickq_yes (q:Rat) (w:World) (h:ShQ q) :
    Calls Tryz.prog 85 #[.string (qs q)] w fun e w'=>e = .returned (.tuple #[.int .i64 q.num,.int .i64 q.den,.bool true])/\w=w' :=
 quickq_go q w (k:=9) ⟨h.1,h.2⟩ (by decide) _ _ _ (Hi19 ⟨fun _=>⟨rfl,rfl,rfl⟩,fun h'=>absurd h h'⟩)
theorem quickq_no (q:Rat) {k:Nat} (w:World) (hq:QB k q) (hk:k<=9000) (h:¬ ShQ q) :
    Calls Tryz.prog 85 #[.string (qs q)] w fun e w'=>e = .returned (.tuple #[.int .i64 0,.int .i64 0,.bool false])/\w=w' :=
 quickq_go q w hq hk _ _ _ (Hi19 ⟨fun h'=>absurd h' h,fun _=>⟨rfl,rfl,rfl⟩⟩)
theorem ret_qs {s:ByteArray} {t:ByteArray} (h:s=t):Ending.returned (.string s) = .returned (.string t):=by rw [h]
theorem small_q (n:Int) (d:Nat) (w:World) (g:Gd w) (hn:n.natAbs<=4000000000000000000) (hd:d≠0) (hd2:d<=4000000000000000000) :
    Calls Tryz.prog 187 #[.int .i64 n,.int .i64 d] w (Ret w (.string (qs (mkRat n d)))):=by
 have HN:=Hi19 hn;have HD:=Hi19 hd;have HD2:=Hi19 hd2;have HG:=Hi19 g;clear hn hd hd2 g;go_enter Tryz.func187,Tryz.ntmps187;go_wp2;go_loopw [5,6] (fun x y W=>∃ X Y:Int,x = .int .i64 X/\y = .int .i64 Y/\Int.gcd X Y=Int.gcd n d/\X.natAbs<=4000000000000000000/\Y.natAbs<=4000000000000000000/\Ext w W)
  (fun _ y _=>(intOf y).natAbs)
 case atStart=>exact ⟨n,d,rfl,rfl,rfl,HN.out,by have:=HD2.out;omega,Ext.refl _⟩
 case round =>
  obtain ⟨X,Y,rfl,rfl,hg,hX,hY,hx⟩:=hrel;have HGC:=Hi19 hg;have HX:=Hi19 hX;have HY:=Hi19 hY;have x1:-4000000000000000000<=X:=by omega
  have x2:X<=4000000000000000000:=by omega
  have y1:-4000000000000000000<=Y:=by omega
  have y2:Y<=4000000000000000000:=by omega
  clear hg hX hY;by_cases h0:Y=0
  ·subst h0;have hf:Int.gcd n d=X.natAbs:=by rw [← HGC.out,Int.gcd_zero]
   obtain ⟨G,hG⟩:∃ G:Nat,G=X.natAbs:=⟨_,rfl⟩
   rw [← hG] at hf;have hG0:G≠0:=by
    intro e;rw [e] at hf;exact absurd hf (Int.gcd_ne_zero_right (by have:=HD.out;omega))
   have hdv:(G:Int)∣n:=by rw [← hf];exact Int.gcd_dvd_left _ _
   have eq:=ql_mkRat (n:=n) (d:=d) (g:=G) HD.out hf;have hGd:G<=d:=by rw [← hf];have:=Int.gcd_le_natAbs_right n (b:=(d:Int)) (by have:=HD.out;omega);simpa using this
   have HF:=Hi19 hf;have HEQ:=Hi19 eq;have HDV:=Hi19 hdv;have HGE:=Hi19 hG;obtain ⟨N',hN'⟩:∃ N',N'=n.tdiv G:=⟨_,rfl⟩
   obtain ⟨D',hD'⟩:∃ D',D'=d / G:=⟨_,rfl⟩
   have hNa:N'.natAbs<=4000000000000000000:=by
    rw [hN',Int.natAbs_tdiv];exact Nat.le_trans (Nat.div_le_self _ _) HN.out
   have hDa:D'<=4000000000000000000:=by rw [hD'];exact Nat.le_trans (Nat.div_le_self _ _) HD2.out
   have n1:-4000000000000000000<=N':=by omega
   have n2:N'<=4000000000000000000:=by omega
   have d2:(D':Int)<=4000000000000000000:=by omega
   have q1:IntKind.i64.wrap (n.tdiv G)=N':=by rw [← hN'];exact IntWalk.i64_in _ (by omega)
   have q2:(d:Int) / (G:Int)=(D':Int):=by rw [hD'];simp
   have q3:(d:Int).tdiv (G:Int)=(D':Int):=by rw [hD'];rfl
   have q4:IntKind.i64.wrap (D':Int)=(D':Int):=IntWalk.i64_in _ (by omega);rw [← hN',← hD'] at HEQ;have HND:=Hi19 (And.intro hN' hD');have gpos:1<=(G:Int):=by omega
   have hne:¬ (G:Int)=0:=by omega
   have hne2:¬ G=0:=hG0;clear hf eq hdv hG hN' hD' hNa hDa hG0 hGd;by_cases hneg:X<0
   ·have eX:-X=(G:Int):=by have:=HGE.out;omega
    by_cases h1:D'=1
    ·subst h1;have e1:(⟨(joinl N' 1).toArray⟩:ByteArray)=zs N':=rfl;have E1:=Hi19 e1;clear e1;go_wp2;go_region
     all_goals
      go_wp2_with (go_at_call 193;refine (itoa_c N' (by omega) (by omega) _ (HG.out.ext hx.drew)).mono ?_;rintro e w3 ⟨rfl,e3⟩);go_ret;exact ⟨ret_qs (by unfold qs;rw [HEQ.out];rfl),hx.drew.trans e3⟩
    ·have h1':¬ (D':Int)=1:=by omega
     have e1:=join_bytes N' D';have s1:(zs N').size<=100:=by
      rw [zs_size];have:=zl_len_le (n:=N') (k:=19) (by decide) (by omega);omega
     have s2:(zs (D':Int)).size<=100:=by
      rw [zs_size];have:=zl_len_le (n:=(D':Int)) (k:=19) (by decide) (by omega);omega
     have e2:qs (mkRat n d)=zs N' ++ (⟨#[47]⟩:ByteArray) ++ zs (D':Int):=by
      rw [e1];unfold qs;rw [HEQ.out];unfold joinl;rw [if_neg h1]
     have E2:=Hi19 e2;clear e1 e2 h1;go_wp2;go_region
     all_goals
      go_wp2_with (first
       | (go_at_call 193;((with_reducible refine (itoa_c N' (by omega) (by omega) wr.drew (HG.out.ext hx.drew)).mono ?_);rintro e w3 ⟨rfl,e3⟩))
       | (go_at_call 193;refine (itoa_c (D':Int) (by omega) (by omega) _ (HG.out.ext (hx.drew.trans e3))).mono ?_;rintro e w4 ⟨rfl,e4⟩))
      go_ret;exact ⟨ret_qs E2.out.symm,(hx.drew.trans e3).trans e4⟩
   ·obtain rfl:X=(G:Int):=by have:=HGE.out;omega
    by_cases h1:D'=1
    ·subst h1;have e1:(⟨(joinl N' 1).toArray⟩:ByteArray)=zs N':=rfl;have E1:=Hi19 e1;clear e1;go_wp2;go_region
     all_goals
      go_wp2_with (go_at_call 193;refine (itoa_c N' (by omega) (by omega) _ (HG.out.ext hx.drew)).mono ?_;rintro e w3 ⟨rfl,e3⟩);go_ret;exact ⟨ret_qs (by unfold qs;rw [HEQ.out];rfl),hx.drew.trans e3⟩
    ·have h1':¬ (D':Int)=1:=by omega
     have e1:=join_bytes N' D';have s1:(zs N').size<=100:=by
      rw [zs_size];have:=zl_len_le (n:=N') (k:=19) (by decide) (by omega);omega
     have s2:(zs (D':Int)).size<=100:=by
      rw [zs_size];have:=zl_len_le (n:=(D':Int)) (k:=19) (by decide) (by omega);omega
     have e2:qs (mkRat n d)=zs N' ++ (⟨#[47]⟩:ByteArray) ++ zs (D':Int):=by
      rw [e1];unfold qs;rw [HEQ.out];unfold joinl;rw [if_neg h1]
     have E2:=Hi19 e2;clear e1 e2 h1;go_wp2;go_region
     all_goals
      go_wp2_with (first
       | (go_at_call 193;((with_reducible refine (itoa_c N' (by omega) (by omega) wr.drew (HG.out.ext hx.drew)).mono ?_);rintro e w3 ⟨rfl,e3⟩))
       | (go_at_call 193;refine (itoa_c (D':Int) (by omega) (by omega) _ (HG.out.ext (hx.drew.trans e3))).mono ?_;rintro e w4 ⟨rfl,e4⟩))
      go_ret;exact ⟨ret_qs E2.out.symm,(hx.drew.trans e3).trans e4⟩
  ·have hs:=gcd_step X Y;have hm:=Int.natAbs_tmod X Y;have hlt:=Nat.mod_lt X.natAbs (show 0<Y.natAbs by omega);have HS:=Hi19 hs;have HL:=Hi19 (show (X.tmod Y).natAbs<Y.natAbs by omega);clear hs hm hlt;go_wp2;go_region
   all_goals
    go_roundw
    case rel=>(repeat apply Exists.intro);exact ⟨⟨Y,X.tmod Y,rfl,rfl,by rw [HS.out,HGC.out],HY.out,by have:=HL.out;have:=HY.out;omega,hx.drew⟩,rfl⟩
    case measure=>have:=HL.out;simpa [intOf] using this
theorem qs_is0 {q:Rat} (h:q=0):((qs q).toList == [48])=true:=by rw [qs_toList,q0_iff.2 h];rfl
theorem qs_not0 {q:Rat} (h:q≠0):((qs q).toList == [48])=false:=by rw [qs_toList];simpa using fun e=>h (q0_iff.1 e)
theorem qs_is1 {q:Rat} (h:q=1):((qs q).toList == [49])=true:=by rw [qs_toList,q1_iff.2 h];rfl
theorem qs_not1 {q:Rat} (h:q≠1):((qs q).toList == [49])=false:=by rw [qs_toList];simpa using fun e=>h (q1_iff.1 e)
theorem qs_pos (q:Rat):0<(qs q).size:=by rw [qs_size];exact List.length_pos_iff.2 (ql_ne q)
theorem head_45:∀ (l:List UInt8) (h:0<l.length),((l[0].toNat:Int)=45 ↔ l.head?=some 45)
 | b :: t,_=>by
  simp only [List.getElem_cons_zero,List.head?_cons,Option.some.injEq];constructor
  ·intro e;apply UInt8.toNat_inj.1;show b.toNat=45;omega
  ·intro e;rw [e];rfl
theorem qs_head (q:Rat) (h:0<(qs q).size):((qs q)[0].toNat:Int)=45 ↔ q.num<0:=by
 rw [← ql_head_neg,bytes_getElem _ 0 h,head_45,qs_list]
theorem num_ne {q:Rat} (h:q≠0):q.num≠0:=fun e=>h (Rat.num_eq_zero.1 e)
theorem rsign_c (q:Rat) (w:World):Calls Tryz.prog 31 #[.string (qs q)] w fun e w'=>e = .returned (.int .i64 q.num.sign)/\w=w':=by
 have hp:=qs_pos q;have hp':(0:Int)<(qs q).size:=by omega
 by_cases h0:q=0
 ·have h1:=qs_is0 h0;have H:Hid (q.num.sign=0):=Hi19 (by subst h0;rfl);clear h0;go_enter Tryz.func31,Tryz.ntmps31;go_wp2;go_ret;exact ⟨by rw [H.out];rfl,rfl⟩
 ·have h1:=qs_not0 h0;by_cases hn:q.num<0
  ·have h2:=(qs_head q hp).2 hn;have H:Hid (q.num.sign=-1):=Hi19 (Int.sign_eq_neg_one_of_neg hn);clear h0 hn;go_enter Tryz.func31,Tryz.ntmps31;go_wp2;go_ret;exact ⟨by rw [H.out];rfl,rfl⟩
  ·have h2:¬ ((qs q)[0].toNat:Int)=45:=fun e=>hn ((qs_head q hp).1 e)
   have H:Hid (q.num.sign=1):=Hi19 (Int.sign_eq_one_of_pos (by have:=num_ne h0;omega));clear h0 hn;go_enter Tryz.func31,Tryz.ntmps31;go_wp2;go_ret;exact ⟨by rw [H.out];rfl,rfl⟩
theorem qs_neg_pos {q:Rat} (h:0<q.num):(⟨#[45]⟩:ByteArray) ++ qs q=qs (-q):=by
 apply bytes_ext;rw [qs_list,ql_neg_pos h,ByteArray.data_append,Array.toList_append,qs_list];rfl
theorem qs_tail {q:Rat} (h:q.num<0):(qs q).extract 1 (qs q).size=qs (-q):=by
 apply bytes_ext;rw [ByteArray.data_extract,Array.toList_extract,qs_list,qs_list,qs_size,ql_neg_num h];simp
theorem rneg_c (q:Rat) {k:Nat} (w:World) (hq:QB k q) (hk:k<=9000):Calls Tryz.prog 62 #[.string (qs q)] w (Ret w (.string (qs (-q)))):=by
 have hp:=qs_pos q;have hl:=hq.len hk;have hp':(0:Int)<(qs q).size:=by omega
 have hp1:1<=(qs q).size:=hp;clear hq;by_cases h0:q=0
 ·have h1:=qs_is0 h0;have H:Hid (qs (-q)=qs q):=Hi19 (by subst h0;rfl);clear h0;go_enter Tryz.func62,Tryz.ntmps62;go_wp2;go_ret;exact ⟨ret_qs H.out.symm,Ext.refl _⟩
 ·have h1:=qs_not0 h0;by_cases hn:q.num<0
  ·have h2:=(qs_head q hp).2 hn;have H:=Hi19 (qs_tail hn);clear h0 hn;go_enter Tryz.func62,Tryz.ntmps62;go_wp2;go_ret;exact ⟨ret_qs H.out,Ext.refl _⟩
  ·have h2:¬ ((qs q)[0].toNat:Int)=45:=fun e=>hn ((qs_head q hp).1 e)
   have H:=Hi19 (qs_neg_pos (q:=q) (by have:=num_ne h0;omega));clear h0 hn;go_enter Tryz.func62,Tryz.ntmps62;go_wp2;go_ret;exact ⟨ret_qs H.out,Ext.refl _⟩
theorem rsmall_c (n D:Int) (d:Nat) (w:World) (g:Gd w) (hD:D=(d:Int)) (hn:n.natAbs<=4000000000000000000) (hd:d≠0) (hd2:d<=4000000000000000000) :
    Calls Tryz.prog 187 #[.int .i64 n,.int .i64 D] w (Ret w (.string (qs (mkRat n d)))):=by
 subst hD;exact small_q n d w g hn hd hd2
theorem prod_bd {a b:Int} (ha:a.natAbs<1000000000) (hb:b.natAbs<1000000000):-1000000000000000000<=a*b/\a*b<=1000000000000000000:=by
 have h:(a*b).natAbs<=1000000000*1000000000:=by rw [Int.natAbs_mul];exact Nat.mul_le_mul (Nat.le_of_lt ha) (Nat.le_of_lt hb)
 omega
theorem nprod_bd {a b:Nat} (ha:a<1000000000) (hb:b<1000000000):a*b<=1000000000000000000:=by
 have h:a*b<=1000000000*1000000000:=Nat.mul_le_mul (Nat.le_of_lt ha) (Nat.le_of_lt hb);omega
set_option maxHeartbeats 1000000 in
theorem radd_quick (a b:Rat) (w:World) (g:Gd w) (ha:ShQ a) (hb:ShQ b) (ha0:a≠0) (hb0:b≠0):Calls Tryz.prog 115 #[.string (qs a),.string (qs b)] w (Ret w (.string (qs (a+b)))):=by
 have h1:=qs_not0 ha0;have h2:=qs_not0 hb0;have E:=Hi19 (Rat.add_def' a b);have HA:=Hi19 ha;have HB:=Hi19 hb;have HG:=Hi19 g;obtain ⟨p1,p2⟩:=prod_bd (a:=a.num) (b:=(b.den:Int)) ha.1 (by rw [Int.natAbs_natCast];exact hb.2);obtain ⟨p3,p4⟩:=prod_bd (a:=b.num) (b:=(a.den:Int)) hb.1 (by rw [Int.natAbs_natCast];exact ha.2);obtain ⟨p5,p6⟩:=prod_bd (a:=(a.den:Int)) (b:=(b.den:Int)) (by rw [Int.natAbs_natCast];exact ha.2) (by rw [Int.natAbs_natCast];exact hb.2);have p7:=nprod_bd ha.2 hb.2;have P7:=Hi19 p7;have P8:=Hi19 (Nat.mul_ne_zero a.den_nz b.den_nz);have P9:=Hi19 (Int.natCast_mul a.den b.den).symm;clear ha hb ha0 hb0 g p7;go_enter Tryz.func115,Tryz.ntmps115;go_wp2_with (first
  | (go_at_call 85;((with_reducible refine (quickq_yes a _ HA.out).mono ?_);rintro e w' ⟨rfl,rfl⟩))
  | (go_at_call 85;refine (quickq_yes b _ HB.out).mono ?_;rintro e w' ⟨rfl,rfl⟩)
  | (go_at_call 187;refine (rsmall_c (a.num*b.den+b.num*a.den) _ (a.den*b.den) _ HG.out P9.out (by omega) P8.out (by have:=P7.out;omega)).mono ?_;rintro e w1 ⟨rfl,e1⟩))
 go_ret;exact ⟨ret_qs (by rw [E.out]),e1⟩
theorem radd_big (a b:Rat) {k m:Nat} (w:World) (g:Gd w) (qa:QB k a) (qb:QB m b) (hk:k<=3000) (hm:m<=3000) (h:¬ (ShQ a/\ShQ b)) (ha0:a≠0) (hb0:b≠0):Calls Tryz.prog 115 #[.string (qs a),.string (qs b)] w (Ret w (.string (qs (a+b)))):=by
 have h1:=qs_not0 ha0;have h2:=qs_not0 hb0;have E:=Hi19 (Rat.add_def' a b);have HG:=Hi19 g;have QA:=Hi19 qa;have QB':=Hi19 qb;have P8:=Hi19 (Nat.mul_ne_zero a.den_nz b.den_nz);have P9:Hid ((a.den:Int)*(b.den:Int)=((a.den*b.den:Nat):Int)):=Hi19 (Int.natCast_mul a.den b.den).symm;have IBD:Hid (IB (k+m) ((a.den*b.den:Nat):Int)):=Hi19 (by rw [← P9.out];exact qa.denIB.mul qb.denIB);clear ha0 hb0 g qa qb;by_cases hsa:ShQ a
 ·have hsb:¬ ShQ b:=fun e=>h ⟨hsa,e⟩
  have HA:=Hi19 hsa;have HB:=Hi19 hsb;clear h hsa hsb;go_enter Tryz.func115,Tryz.ntmps115;go_wp2_with (first
   | (go_at_call 85;((with_reducible refine (quickq_yes a _ HA.out).mono ?_);rintro e w' ⟨rfl,rfl⟩))
   | (go_at_call 85;refine (quickq_no b _ QB'.out (by omega) HB.out).mono ?_;rintro e w' ⟨rfl,rfl⟩)
   | (go_at_call 86;((with_reducible refine (parts_c a w QA.out (by omega)).mono ?_);rintro e w1 ⟨rfl,e1⟩))
   | (go_at_call 86;refine (parts_c b w1 QB'.out (by omega)).mono ?_;rintro e w2 ⟨rfl,e2⟩;have e12:=Ext.trans e1 e2)
   | (go_at_call 88;((with_reducible refine (mul_c a.num b.den w2 (HG.out.ext e12) QA.out.numIB QB'.out.denIB (by omega) (by omega)).mono ?_);rintro e w3 ⟨rfl,e3⟩;have e13:=e12.trans e3))
   | (go_at_call 88;((with_reducible refine (mul_c b.num a.den w3 (HG.out.ext e13) QB'.out.numIB QA.out.denIB (by omega) (by omega)).mono ?_);rintro e w4 ⟨rfl,e4⟩;have e14:=e13.trans e4))
   | (go_at_call 189;refine (add_c _ _ _ (HG.out.ext e14) (QA.out.numIB.mul QB'.out.denIB) (QB'.out.numIB.mul QA.out.denIB) (by omega) (by omega)).mono ?_;rintro e w5 ⟨rfl,e5⟩;have e15:=e14.trans e5)
   | (go_at_call 88;refine (mul_c (a.den:Int) b.den _ (HG.out.ext e15) QA.out.denIB QB'.out.denIB (by omega) (by omega)).mono ?_;rw [P9.out];rintro e w6 ⟨rfl,e6⟩;have e16:=e15.trans e6)
   | (go_at_call 188;refine (lowest_pos _ (a.den*b.den) P8.out _ (HG.out.ext e16) ((QA.out.numIB.mul QB'.out.denIB).add (QB'.out.numIB.mul QA.out.denIB)) IBD.out (by omega) (by omega)).mono ?_;rintro e w7 ⟨rfl,e7⟩))
  go_ret;exact ⟨ret_qs (by rw [E.out]),e16.trans e7⟩
 ·have HA:=Hi19 hsa;clear h hsa;go_enter Tryz.func115,Tryz.ntmps115;go_wp2_with (first
   | (go_at_call 85;refine (quickq_no a _ QA.out (by omega) HA.out).mono ?_;rintro e w' ⟨rfl,rfl⟩)
   | (go_at_call 86;((with_reducible refine (parts_c a w QA.out (by omega)).mono ?_);rintro e w1 ⟨rfl,e1⟩))
   | (go_at_call 86;refine (parts_c b w1 QB'.out (by omega)).mono ?_;rintro e w2 ⟨rfl,e2⟩;have e12:=Ext.trans e1 e2)
   | (go_at_call 88;((with_reducible refine (mul_c a.num b.den w2 (HG.out.ext e12) QA.out.numIB QB'.out.denIB (by omega) (by omega)).mono ?_);rintro e w3 ⟨rfl,e3⟩;have e13:=e12.trans e3))
   | (go_at_call 88;((with_reducible refine (mul_c b.num a.den w3 (HG.out.ext e13) QB'.out.numIB QA.out.denIB (by omega) (by omega)).mono ?_);rintro e w4 ⟨rfl,e4⟩;have e14:=e13.trans e4))
   | (go_at_call 189;refine (add_c _ _ _ (HG.out.ext e14) (QA.out.numIB.mul QB'.out.denIB) (QB'.out.numIB.mul QA.out.denIB) (by omega) (by omega)).mono ?_;rintro e w5 ⟨rfl,e5⟩;have e15:=e14.trans e5)
   | (go_at_call 88;refine (mul_c (a.den:Int) b.den _ (HG.out.ext e15) QA.out.denIB QB'.out.denIB (by omega) (by omega)).mono ?_;rw [P9.out];rintro e w6 ⟨rfl,e6⟩;have e16:=e15.trans e6)
   | (go_at_call 188;refine (lowest_pos _ (a.den*b.den) P8.out _ (HG.out.ext e16) ((QA.out.numIB.mul QB'.out.denIB).add (QB'.out.numIB.mul QA.out.denIB)) IBD.out (by omega) (by omega)).mono ?_;rintro e w7 ⟨rfl,e7⟩))
  go_ret;exact ⟨ret_qs (by rw [E.out]),e16.trans e7⟩
theorem radd_c (a b:Rat) {k m:Nat} (w:World) (g:Gd w) (qa:QB k a) (qb:QB m b) (hk:k<=3000) (hm:m<=3000):Calls Tryz.prog 115 #[.string (qs a),.string (qs b)] w (Ret w (.string (qs (a+b)))):=by
 by_cases ha0:a=0
 ·have h1:=qs_is0 ha0;have E:Hid (qs (a+b)=qs b):=Hi19 (by subst ha0;rw [Rat.zero_add]);clear ha0 qa qb;go_enter Tryz.func115,Tryz.ntmps115;go_wp2;go_ret;exact ⟨ret_qs E.out.symm,Ext.refl _⟩
 ·by_cases hb0:b=0
  ·have h1:=qs_not0 ha0;have h2:=qs_is0 hb0;have E:Hid (qs (a+b)=qs a):=Hi19 (by subst hb0;rw [Rat.add_zero]);clear ha0 hb0 qa qb;go_enter Tryz.func115,Tryz.ntmps115;go_wp2;go_ret;exact ⟨ret_qs E.out.symm,Ext.refl _⟩
  ·by_cases h:ShQ a/\ShQ b
   ·exact radd_quick a b w g h.1 h.2 ha0 hb0
   ·exact radd_big a b w g qa qb hk hm h ha0 hb0
set_option maxHeartbeats 1000000 in
theorem rmul_quick (a b:Rat) (w:World) (g:Gd w) (ha:ShQ a) (hb:ShQ b) (ha0:a≠0) (hb0:b≠0) (ha1:a≠1) (hb1:b≠1):Calls Tryz.prog 116 #[.string (qs a),.string (qs b)] w (Ret w (.string (qs (a*b)))):=by
 have h1:=qs_not0 ha0;have h2:=qs_not0 hb0;have h3:=qs_not1 ha1;have h4:=qs_not1 hb1;have E:=Hi19 (Rat.mul_def' a b);have HA:=Hi19 ha;have HB:=Hi19 hb;have HG:=Hi19 g;obtain ⟨p1,p2⟩:=prod_bd (a:=a.num) (b:=b.num) ha.1 hb.1;obtain ⟨p5,p6⟩:=prod_bd (a:=(a.den:Int)) (b:=(b.den:Int)) (by rw [Int.natAbs_natCast];exact ha.2) (by rw [Int.natAbs_natCast];exact hb.2);have p7:=nprod_bd ha.2 hb.2;have P7:=Hi19 p7;have P8:=Hi19 (Nat.mul_ne_zero a.den_nz b.den_nz);have P9:=Hi19 (Int.natCast_mul a.den b.den).symm;clear ha hb ha0 hb0 ha1 hb1 g p7;go_enter Tryz.func116,Tryz.ntmps116;go_wp2_with (first
  | (go_at_call 85;((with_reducible refine (quickq_yes a _ HA.out).mono ?_);rintro e w' ⟨rfl,rfl⟩))
  | (go_at_call 85;refine (quickq_yes b _ HB.out).mono ?_;rintro e w' ⟨rfl,rfl⟩)
  | (go_at_call 187;refine (rsmall_c (a.num*b.num) _ (a.den*b.den) _ HG.out P9.out (by omega) P8.out (by have:=P7.out;omega)).mono ?_;rintro e w1 ⟨rfl,e1⟩))
 go_ret;exact ⟨ret_qs (by rw [E.out]),e1⟩
theorem rmul_big (a b:Rat) {k m:Nat} (w:World) (g:Gd w) (qa:QB k a) (qb:QB m b) (hk:k<=3000) (hm:m<=3000) (h:¬ (ShQ a/\ShQ b)) (ha0:a≠0) (hb0:b≠0) (ha1:a≠1) (hb1:b≠1):Calls Tryz.prog 116 #[.string (qs a),.string (qs b)] w (Ret w (.string (qs (a*b)))):=by
 have h1:=qs_not0 ha0;have h2:=qs_not0 hb0;have h3:=qs_not1 ha1;have h4:=qs_not1 hb1;have E:=Hi19 (Rat.mul_def' a b);have HG:=Hi19 g;have QA:=Hi19 qa;have QB':=Hi19 qb;have P8:=Hi19 (Nat.mul_ne_zero a.den_nz b.den_nz);have P9:Hid ((a.den:Int)*(b.den:Int)=((a.den*b.den:Nat):Int)):=Hi19 (Int.natCast_mul a.den b.den).symm;have IBD:Hid (IB (k+m) ((a.den*b.den:Nat):Int)):=Hi19 (by rw [← P9.out];exact qa.denIB.mul qb.denIB);clear ha0 hb0 ha1 hb1 g qa qb;by_cases hsa:ShQ a
 ·have hsb:¬ ShQ b:=fun e=>h ⟨hsa,e⟩
  have HA:=Hi19 hsa;have HB:=Hi19 hsb;clear h hsa hsb;go_enter Tryz.func116,Tryz.ntmps116;go_wp2_with (first
   | (go_at_call 85;((with_reducible refine (quickq_yes a _ HA.out).mono ?_);rintro e w' ⟨rfl,rfl⟩))
   | (go_at_call 85;refine (quickq_no b _ QB'.out (by omega) HB.out).mono ?_;rintro e w' ⟨rfl,rfl⟩)
   | (go_at_call 86;((with_reducible refine (parts_c a w QA.out (by omega)).mono ?_);rintro e w1 ⟨rfl,e1⟩))
   | (go_at_call 86;refine (parts_c b w1 QB'.out (by omega)).mono ?_;rintro e w2 ⟨rfl,e2⟩;have e12:=Ext.trans e1 e2)
   | (go_at_call 88;((with_reducible refine (mul_c a.num b.num w2 (HG.out.ext e12) QA.out.numIB QB'.out.numIB (by omega) (by omega)).mono ?_);rintro e w5 ⟨rfl,e5⟩;have e15:=e12.trans e5))
   | (go_at_call 88;refine (mul_c (a.den:Int) b.den _ (HG.out.ext e15) QA.out.denIB QB'.out.denIB (by omega) (by omega)).mono ?_;rw [P9.out];rintro e w6 ⟨rfl,e6⟩;have e16:=e15.trans e6)
   | (go_at_call 188;refine (lowest_pos _ (a.den*b.den) P8.out _ (HG.out.ext e16) (QA.out.numIB.mul QB'.out.numIB) IBD.out (by omega) (by omega)).mono ?_;rintro e w7 ⟨rfl,e7⟩))
  go_ret;exact ⟨ret_qs (by rw [E.out]),e16.trans e7⟩
 ·have HA:=Hi19 hsa;clear h hsa;go_enter Tryz.func116,Tryz.ntmps116;go_wp2_with (first
   | (go_at_call 85;refine (quickq_no a _ QA.out (by omega) HA.out).mono ?_;rintro e w' ⟨rfl,rfl⟩)
   | (go_at_call 86;((with_reducible refine (parts_c a w QA.out (by omega)).mono ?_);rintro e w1 ⟨rfl,e1⟩))
   | (go_at_call 86;refine (parts_c b w1 QB'.out (by omega)).mono ?_;rintro e w2 ⟨rfl,e2⟩;have e12:=Ext.trans e1 e2)
   | (go_at_call 88;((with_reducible refine (mul_c a.num b.num w2 (HG.out.ext e12) QA.out.numIB QB'.out.numIB (by omega) (by omega)).mono ?_);rintro e w5 ⟨rfl,e5⟩;have e15:=e12.trans e5))
   | (go_at_call 88;refine (mul_c (a.den:Int) b.den _ (HG.out.ext e15) QA.out.denIB QB'.out.denIB (by omega) (by omega)).mono ?_;rw [P9.out];rintro e w6 ⟨rfl,e6⟩;have e16:=e15.trans e6)
   | (go_at_call 188;refine (lowest_pos _ (a.den*b.den) P8.out _ (HG.out.ext e16) (QA.out.numIB.mul QB'.out.numIB) IBD.out (by omega) (by omega)).mono ?_;rintro e w7 ⟨rfl,e7⟩))
  go_ret;exact ⟨ret_qs (by rw [E.out]),e16.trans e7⟩
theorem rmul_c (a b:Rat) {k m:Nat} (w:World) (g:Gd w) (qa:QB k a) (qb:QB m b) (hk:k<=3000) (hm:m<=3000):Calls Tryz.prog 116 #[.string (qs a),.string (qs b)] w (Ret w (.string (qs (a*b)))):=by
 by_cases ha0:a=0
 ·have h1:=qs_is0 ha0;have E:Hid (qs (a*b)=⟨#[48]⟩):=Hi19 (by subst ha0;rw [Rat.zero_mul,qs_zero]);clear ha0 qa qb;go_enter Tryz.func116,Tryz.ntmps116;go_wp2;go_ret;exact ⟨ret_qs E.out.symm,Ext.refl _⟩
 ·by_cases hb0:b=0
  ·have h1:=qs_not0 ha0;have h2:=qs_is0 hb0;have E:Hid (qs (a*b)=⟨#[48]⟩):=Hi19 (by subst hb0;rw [Rat.mul_zero,qs_zero]);clear ha0 hb0 qa qb;go_enter Tryz.func116,Tryz.ntmps116;go_wp2;go_ret;exact ⟨ret_qs E.out.symm,Ext.refl _⟩
  ·by_cases ha1:a=1
   ·have h1:=qs_not0 ha0;have h2:=qs_not0 hb0;have h3:=qs_is1 ha1;have E:Hid (qs (a*b)=qs b):=Hi19 (by subst ha1;rw [Rat.one_mul]);clear ha0 hb0 ha1 qa qb;go_enter Tryz.func116,Tryz.ntmps116;go_wp2;go_ret;exact ⟨ret_qs E.out.symm,Ext.refl _⟩
   ·by_cases hb1:b=1
    ·have h1:=qs_not0 ha0;have h2:=qs_not0 hb0;have h3:=qs_not1 ha1;have h4:=qs_is1 hb1;have E:Hid (qs (a*b)=qs a):=Hi19 (by subst hb1;rw [Rat.mul_one]);clear ha0 hb0 ha1 hb1 qa qb;go_enter Tryz.func116,Tryz.ntmps116;go_wp2;go_ret;exact ⟨ret_qs E.out.symm,Ext.refl _⟩
    ·by_cases h:ShQ a/\ShQ b
     ·exact rmul_quick a b w g h.1 h.2 ha0 hb0 ha1 hb1
     ·exact rmul_big a b w g qa qb hk hm h ha0 hb0 ha1 hb1
theorem ql_inv (b:Rat) (hb:b≠0):(⟨(joinl (b.num.sign*b.den) b.num.natAbs).toArray⟩:ByteArray)=qs b⁻¹:=by
 unfold qs;rw [ql_join,Rat.num_inv,Rat.den_inv,if_neg (num_ne hb)]
theorem inv_parts_pos {b:Rat} (h:0<b.num):b.num.sign*b.den=b.den/\(b.num.natAbs:Int)=b.num:=by
 rw [Int.sign_eq_one_of_pos h,Int.one_mul];exact ⟨rfl,by omega⟩
theorem inv_parts_neg {b:Rat} (h:b.num<0):b.num.sign*b.den=-(b.den:Int)/\(b.num.natAbs:Int)=-b.num:=by
 rw [Int.sign_eq_neg_one_of_neg h];exact ⟨by omega,by omega⟩
set_option maxHeartbeats 1000000 in
theorem rdiv_c (a b:Rat) {k m:Nat} (w:World) (g:Gd w) (qa:QB k a) (qb:QB m b) (hk:k<=3000) (hm:m<=3000) (hm1:1<=m) (hb0:b≠0):Calls Tryz.prog 230 #[.string (qs a),.string (qs b)] w (Ret w (.tuple #[.string (qs (a / b)),.int .i64 0])):=by
 have h1:=qs_not0 hb0;have hp:=qs_pos b;have hp':(0:Int)<(qs b).size:=by omega
 have QA:=Hi19 qa;have QB':=Hi19 qb;have HG:=Hi19 g;have HI:=Hi19 (ql_inv b hb0);have HD:=Hi19 (Rat.div_def a b);have QI:=Hi19 (qb.inv hm1);have IN:Hid (IB m b.num/\IB m (b.den:Int)):=Hi19 ⟨qb.numIB,qb.denIB⟩;by_cases hn:b.num<0
 ·have h2:=(qs_head b hp).2 hn;obtain ⟨p1,p2⟩:=inv_parts_neg hn;have P1:=Hi19 p1;have P2:=Hi19 p2;clear hb0 hn qa qb g p1 p2;go_enter Tryz.func230,Tryz.ntmps230;go_wp2_with (first
   | (go_at_call 86;refine (parts_c b _ QB'.out (by omega)).mono ?_;rintro e w1 ⟨rfl,e1⟩)
   | (go_at_call 248;((with_reducible refine (neg_c b.num _ (IN.out.1.len (by omega))).mono ?_);rw [← P2.out];rintro e w' ⟨rfl,rfl⟩))
   | (go_at_call 248;refine (neg_c (b.den:Int) _ (IN.out.2.len (by omega))).mono ?_;rw [← P1.out];rintro e w' ⟨rfl,rfl⟩)
   | (go_at_call 249;refine (join_c _ _ _ (by rw [P1.out];exact IN.out.2.neg) (by rw [P2.out];exact IN.out.1.neg) (by omega) (by omega)).mono ?_;rw [HI.out];rintro e w' ⟨rfl,rfl⟩)
   | (go_at_call 116;refine (rmul_c a b⁻¹ _ (HG.out.ext e1) QA.out QI.out hk hm).mono ?_;rintro e w2 ⟨rfl,e2⟩))
  go_ret2;exact ⟨by rw [HD.out];rfl,e1.trans e2⟩
 ·have h2:¬ ((qs b)[0].toNat:Int)=45:=fun e=>hn ((qs_head b hp).1 e)
  obtain ⟨p1,p2⟩:=inv_parts_pos (b:=b) (by have:=num_ne hb0;omega);have P1:=Hi19 p1;have P2:=Hi19 p2;clear hb0 hn qa qb g p1 p2;go_enter Tryz.func230,Tryz.ntmps230;go_wp2_with (first
   | (go_at_call 86;refine (parts_c b _ QB'.out (by omega)).mono ?_;rw [← P2.out,← P1.out];rintro e w1 ⟨rfl,e1⟩)
   | (go_at_call 249;refine (join_c _ _ _ (by rw [P1.out];exact IN.out.2) (by rw [P2.out];exact IN.out.1) (by omega) (by omega)).mono ?_;rw [HI.out];rintro e w' ⟨rfl,rfl⟩)
   | (go_at_call 116;refine (rmul_c a b⁻¹ _ (HG.out.ext e1) QA.out QI.out hk hm).mono ?_;rintro e w2 ⟨rfl,e2⟩))
  go_ret2;exact ⟨by rw [HD.out];rfl,e1.trans e2⟩
def qcmp (a b:Rat):Int:=if a<b then -1 else if a=b then 0 else 1
theorem qcmp_icmp (a b:Rat):icmp (a.num*b.den) (b.num*a.den)=qcmp a b:=by
 unfold icmp qcmp
 congr 1
 ·exact propext (Rat.lt_iff a b).symm
 ·congr 1
  exact propext Rat.eq_iff_mul_eq_mul.symm
theorem qcmp_self (a:Rat):qcmp a a=0:=by unfold qcmp;rw [if_neg Rat.lt_irrefl,if_pos rfl]
theorem qs_eqL {a b:Rat} (h:a=b):((qs a).toList == (qs b).toList)=true:=by subst h;exact beq_self_eq_true _
theorem qs_neL {a b:Rat} (h:a≠b):((qs a).toList == (qs b).toList)=false:=by
 rw [qs_toList,qs_toList];simpa using fun e=>h (ql_inj e)
set_option maxHeartbeats 1000000 in
theorem rcompare_quick (a b:Rat) (w:World) (ha:ShQ a) (hb:ShQ b) (hne:a≠b):Calls Tryz.prog 27 #[.string (qs a),.string (qs b)] w (Ret w (.int .i64 (qcmp a b))):=by
 have h1:=qs_neL hne;obtain ⟨p1,p2⟩:=prod_bd (a:=a.num) (b:=(b.den:Int)) ha.1 (by rw [Int.natAbs_natCast];exact hb.2);obtain ⟨p3,p4⟩:=prod_bd (a:=b.num) (b:=(a.den:Int)) hb.1 (by rw [Int.natAbs_natCast];exact ha.2);have HA:=Hi19 ha;have HB:=Hi19 hb;have hc:=qcmp_icmp a b;rcases Int.lt_trichotomy (a.num*b.den) (b.num*a.den) with h|h|h
 ·rw [icmp_lt h] at hc;have HC:=Hi19 hc;clear hc ha hb hne;go_enter Tryz.func27,Tryz.ntmps27;go_wp2_with (first
   | (go_at_call 85;((with_reducible refine (quickq_yes a _ HA.out).mono ?_);rintro e w' ⟨rfl,rfl⟩))
   | (go_at_call 85;refine (quickq_yes b _ HB.out).mono ?_;rintro e w' ⟨rfl,rfl⟩))
  go_ret;exact ⟨by rw [← HC.out];rfl,Ext.refl _⟩
 ·exact absurd (Rat.eq_iff_mul_eq_mul.2 h) hne
 ·rw [icmp_gt h] at hc;have HC:=Hi19 hc;have h':¬ a.num*b.den<b.num*a.den:=by omega
  clear hc ha hb hne;go_enter Tryz.func27,Tryz.ntmps27;go_wp2_with (first
   | (go_at_call 85;((with_reducible refine (quickq_yes a _ HA.out).mono ?_);rintro e w' ⟨rfl,rfl⟩))
   | (go_at_call 85;refine (quickq_yes b _ HB.out).mono ?_;rintro e w' ⟨rfl,rfl⟩))
  go_ret;exact ⟨by rw [← HC.out];rfl,Ext.refl _⟩
theorem rcompare_big (a b:Rat) {k m:Nat} (w:World) (g:Gd w) (qa:QB k a) (qb:QB m b) (hk:k<=3000) (hm:m<=3000) (h:¬ (ShQ a/\ShQ b)) (hne:a≠b):Calls Tryz.prog 27 #[.string (qs a),.string (qs b)] w (Ret w (.int .i64 (qcmp a b))):=by
 have h1:=qs_neL hne;have QA:=Hi19 qa;have QB':=Hi19 qb;have HG:=Hi19 g;have HC:=Hi19 (qcmp_icmp a b);clear qa qb g hne;by_cases hsa:ShQ a
 ·have hsb:¬ ShQ b:=fun e=>h ⟨hsa,e⟩
  have HA:=Hi19 hsa;have HB:=Hi19 hsb;clear h hsa hsb;go_enter Tryz.func27,Tryz.ntmps27;go_wp2_with (first
   | (go_at_call 85;((with_reducible refine (quickq_yes a _ HA.out).mono ?_);rintro e w' ⟨rfl,rfl⟩))
   | (go_at_call 85;refine (quickq_no b _ QB'.out (by omega) HB.out).mono ?_;rintro e w' ⟨rfl,rfl⟩)
   | (go_at_call 86;((with_reducible refine (parts_c a w QA.out (by omega)).mono ?_);rintro e w1 ⟨rfl,e1⟩))
   | (go_at_call 86;refine (parts_c b w1 QB'.out (by omega)).mono ?_;rintro e w2 ⟨rfl,e2⟩;have e12:=Ext.trans e1 e2)
   | (go_at_call 88;((with_reducible refine (mul_c a.num b.den w2 (HG.out.ext e12) QA.out.numIB QB'.out.denIB (by omega) (by omega)).mono ?_);rintro e w3 ⟨rfl,e3⟩;have e13:=e12.trans e3))
   | (go_at_call 88;((with_reducible refine (mul_c b.num a.den w3 (HG.out.ext e13) QB'.out.numIB QA.out.denIB (by omega) (by omega)).mono ?_);rintro e w4 ⟨rfl,e4⟩;have e14:=e13.trans e4))
   | (go_at_call 87;refine (compare_c _ _ _).mono ?_;rw [HC.out];rintro e w' ⟨rfl,rfl⟩))
  go_ret;exact ⟨rfl,e14⟩
 ·have HA:=Hi19 hsa;clear h hsa;go_enter Tryz.func27,Tryz.ntmps27;go_wp2_with (first
   | (go_at_call 85;refine (quickq_no a _ QA.out (by omega) HA.out).mono ?_;rintro e w' ⟨rfl,rfl⟩)
   | (go_at_call 86;((with_reducible refine (parts_c a w QA.out (by omega)).mono ?_);rintro e w1 ⟨rfl,e1⟩))
   | (go_at_call 86;refine (parts_c b w1 QB'.out (by omega)).mono ?_;rintro e w2 ⟨rfl,e2⟩;have e12:=Ext.trans e1 e2)
   | (go_at_call 88;((with_reducible refine (mul_c a.num b.den w2 (HG.out.ext e12) QA.out.numIB QB'.out.denIB (by omega) (by omega)).mono ?_);rintro e w3 ⟨rfl,e3⟩;have e13:=e12.trans e3))
   | (go_at_call 88;((with_reducible refine (mul_c b.num a.den w3 (HG.out.ext e13) QB'.out.numIB QA.out.denIB (by omega) (by omega)).mono ?_);rintro e w4 ⟨rfl,e4⟩;have e14:=e13.trans e4))
   | (go_at_call 87;refine (compare_c _ _ _).mono ?_;rw [HC.out];rintro e w' ⟨rfl,rfl⟩))
  go_ret;exact ⟨rfl,e14⟩
theorem rcompare_c (a b:Rat) {k m:Nat} (w:World) (g:Gd w) (qa:QB k a) (qb:QB m b) (hk:k<=3000) (hm:m<=3000):Calls Tryz.prog 27 #[.string (qs a),.string (qs b)] w (Ret w (.int .i64 (qcmp a b))):=by
 by_cases hne:a=b
 ·have h1:=qs_eqL hne;have HC:Hid (qcmp a b=0):=Hi19 (by subst hne;exact qcmp_self _);clear hne qa qb;go_enter Tryz.func27,Tryz.ntmps27;go_wp2;go_ret;exact ⟨by rw [HC.out];rfl,Ext.refl _⟩
 ·by_cases h:ShQ a/\ShQ b
  ·exact rcompare_quick a b w h.1 h.2 hne
  ·exact rcompare_big a b w g qa qb hk hm h hne
def qmin (a b:Rat):Rat:=if b<a then b else a
def qmax (a b:Rat):Rat:=if a<b then b else a
def RightQ (l:List UInt8):Prop:=∃ q:Rat,l=ql q/\(Lib.decDigits q.num.natAbs).length<=200/\(Lib.decDigits q.den).length<=200
theorem rightQ_none {l:List UInt8} (h:(47:UInt8) ∉ l):RightQ l ↔ RightI l:=by
 constructor
 ·rintro ⟨q,rfl,h1,h2⟩;by_cases hd:q.den=1
  ·exact ⟨q.num,ql_one hd,h1⟩
  ·rw [ql_frac hd] at h;simp at h
 ·rintro ⟨n,rfl,h1⟩;exact ⟨(n:Rat),(ql_int n).symm,by simpa using h1,by rw [Rat.den_intCast,dec_one];decide⟩
theorem mk_rat (a:Int) (b:Nat) (hb:b≠0) (hg:Int.gcd a b=1):(mkRat a b).num=a/\(mkRat a b).den=b:=by
 have:=mkRat_parts a b 1 hb hg;simpa using this
theorem rightQ_at {l x y:List UInt8} (hl:l=x ++ 47 :: y) (hx:(47:UInt8) ∉ x) :
    RightQ l ↔ ∃ (a:Int) (b:Nat),x=zl a/\y=zl (b:Int)/\(Lib.decDigits a.natAbs).length<=200/\(Lib.decDigits b).length<=200/\1<b/\a≠0/\Int.gcd a b=1:=by
 subst hl;constructor
 ·rintro ⟨q,e,h1,h2⟩;by_cases hd:q.den=1
  ·rw [ql_one hd] at e;exact absurd (e▸zl_no_slash q.num) (by simp)
  ·rw [ql_frac hd] at e;obtain ⟨e1,e2⟩:=slash_split hx (zl_no_slash _) e;refine ⟨q.num,q.den,e1,by rw [zl_nat];exact e2,h1,h2,?_,?_,?_⟩
   ·have:=q.den_nz;omega
   ·intro h0;have:=Rat.num_eq_zero.1 h0;subst this;exact hd rfl
   ·exact q.reduced
 ·rintro ⟨a,b,rfl,rfl,h1,h2,h3,h4,h5⟩;obtain ⟨e1,e2⟩:=mk_rat a b (by omega) h5;exact ⟨mkRat a b,by rw [ql_frac (by omega),e1,e2,zl_nat],by rw [e1];exact h1,by rw [e2];exact h2⟩
theorem IB.of_len {n:Int} (h:(Lib.decDigits n.natAbs).length<=200):IB 200 n:=⟨lt_of_dec_len h⟩
set_option maxHeartbeats 1000000 in
theorem rcheck_bad (s x y:ByteArray) (sl:Bool) (w:World) (hc:∀ w,Calls Tryz.prog 163 #[.string s,.string ⟨#[47]⟩] w (Ret w (.tuple #[.string x,.string y,.bool sl]))) (hx:¬ RightI x.data.toList) :
    Calls Tryz.prog 102 #[.string s] w (Ret w (.int .i64 2)):=by
 have HX:=Hi19 hx;clear hx;go_enter Tryz.func102,Tryz.ntmps102;go_wp2_with (first
  | (go_at_call 163;refine (hc _).mono ?_;rintro e w1 ⟨rfl,e1⟩)
  | (go_at_call 181;refine (icheck_c x _ 2 ⟨fun h=>absurd h HX.out,fun _=>rfl⟩).mono ?_;rintro e w' ⟨rfl,rfl⟩))
 go_ret;exact ⟨rfl,e1⟩
set_option maxHeartbeats 1000000 in
theorem rcheck_whole (s x y:ByteArray) (w:World) (hc:∀ w,Calls Tryz.prog 163 #[.string s,.string ⟨#[47]⟩] w (Ret w (.tuple #[.string x,.string y,.bool false]))) (hx:RightI x.data.toList) :
    Calls Tryz.prog 102 #[.string s] w (Ret w (.int .i64 0)):=by
 have HX:=Hi19 hx;clear hx;go_enter Tryz.func102,Tryz.ntmps102;go_wp2_with (first
  | (go_at_call 163;refine (hc _).mono ?_;rintro e w1 ⟨rfl,e1⟩)
  | (go_at_call 181;refine (icheck_c x _ 0 ⟨fun _=>rfl,fun h=>absurd HX.out h⟩).mono ?_;rintro e w' ⟨rfl,rfl⟩))
 go_ret;exact ⟨rfl,e1⟩
set_option maxHeartbeats 1000000 in
theorem rcheck_den (s x y:ByteArray) (w:World) (hc:∀ w,Calls Tryz.prog 163 #[.string s,.string ⟨#[47]⟩] w (Ret w (.tuple #[.string x,.string y,.bool true]))) (hx:RightI x.data.toList) (hy:¬ RightI y.data.toList) :
    Calls Tryz.prog 102 #[.string s] w (Ret w (.int .i64 2)):=by
 have HX:=Hi19 hx;have HY:=Hi19 hy;clear hx hy;go_enter Tryz.func102,Tryz.ntmps102;go_wp2_with (first
  | (go_at_call 163;refine (hc _).mono ?_;rintro e w1 ⟨rfl,e1⟩)
  | (go_at_call 181;((with_reducible refine (icheck_c x w1 0 ⟨fun _=>rfl,fun h=>absurd HX.out h⟩).mono ?_);rintro e w' ⟨rfl,rfl⟩))
  | (go_at_call 181;refine (icheck_c y _ 2 ⟨fun h=>absurd h HY.out,fun _=>rfl⟩).mono ?_;rintro e w' ⟨rfl,rfl⟩))
 go_ret;exact ⟨rfl,e1⟩
theorem rcheck_num (s:ByteArray) (a b:Int) (v:Int) (w:World) (g:Gd w) (hc:∀ w,Calls Tryz.prog 163 #[.string s,.string ⟨#[47]⟩] w (Ret w (.tuple #[.string (zs a),.string (zs b),.bool true])))
    (ha:(Lib.decDigits a.natAbs).length<=200) (hb:(Lib.decDigits b.natAbs).length<=200)
    (hv:(1<b/\a≠0/\Int.gcd a b=1->v=0)/\(¬ (1<b/\a≠0/\Int.gcd a b=1)->v=2)) :
    Calls Tryz.prog 102 #[.string s] w (Ret w (.int .i64 v)):=by
 have HA:=Hi19 (IB.of_len ha);have HB:=Hi19 (IB.of_len hb);have RA:Hid (RightI (zs a).data.toList):=Hi19 (by rw [zs_list];exact right_zl.2 ha);have RB:Hid (RightI (zs b).data.toList):=Hi19 (by rw [zs_list];exact right_zl.2 hb);have one:zs 1=⟨#[49]⟩:=zs_one;have HCC:Hid (∀ w,Calls Tryz.prog 87 #[.string (zs b),.string ⟨#[49]⟩] w fun e w'=>e = .returned (.int .i64 (icmp b 1))/\w=w'):=Hi19 (fun w=>by have:=compare_c b 1 w;rw [one] at this;exact this);clear one ha hb;obtain ⟨c,hcc⟩:∃ c,c=icmp b 1:=⟨_,rfl⟩
 have HC1:=Hi19 hcc;by_cases h1:1<b
 ·have hc1:¬ c<=0:=by rw [hcc,icmp_gt h1];omega
  by_cases h2:a=0
  ·have hv2:=hv.2 (fun h=>h.2.1 h2);have HV:=Hi19 hv2;have z1:=zs_is0 h2;clear hv hv2 hcc h1 h2;go_enter Tryz.func102,Tryz.ntmps102;go_wp2_with (first
    | (go_at_call 163;refine (hc _).mono ?_;rintro e w1 ⟨rfl,e1⟩)
    | (go_at_call 181;((with_reducible refine (icheck_c (zs a) w1 0 ⟨fun _=>rfl,fun h=>absurd RA.out h⟩).mono ?_);rintro e w' ⟨rfl,rfl⟩))
    | (go_at_call 181;refine (icheck_c (zs b) _ 0 ⟨fun _=>rfl,fun h=>absurd RB.out h⟩).mono ?_;rintro e w' ⟨rfl,rfl⟩)
    | (go_at_call 87;refine (HCC.out _).mono ?_;rw [← HC1.out];rintro e w' ⟨rfl,rfl⟩))
   go_ret;exact ⟨by rw [HV.out];rfl,e1⟩
  ·have z1:=zs_not0 h2;obtain ⟨G,hG⟩:∃ G:Nat,G=Int.gcd a b:=⟨_,rfl⟩
   have HG:=Hi19 hG;by_cases h3:(G:Int)=1
   ·have hv2:=hv.1 ⟨h1,h2,by omega⟩;have HV:=Hi19 hv2;have z3:=zs_is1 h3;have z4:=zs_nis1 h3;clear hv hv2 hcc h1 h2 h3 hG;go_enter Tryz.func102,Tryz.ntmps102;go_wp2_with (first
     | (go_at_call 163;refine (hc _).mono ?_;rintro e w1 ⟨rfl,e1⟩)
     | (go_at_call 181;((with_reducible refine (icheck_c (zs a) w1 0 ⟨fun _=>rfl,fun h=>absurd RA.out h⟩).mono ?_);rintro e w' ⟨rfl,rfl⟩))
     | (go_at_call 181;refine (icheck_c (zs b) _ 0 ⟨fun _=>rfl,fun h=>absurd RB.out h⟩).mono ?_;rintro e w' ⟨rfl,rfl⟩)
     | (go_at_call 87;refine (HCC.out _).mono ?_;rw [← HC1.out];rintro e w' ⟨rfl,rfl⟩)
     | (go_at_call 182;refine (gcd_c a b _ (g.ext e1) HA.out HB.out (by decide) (by decide)).mono ?_;rw [← HG.out];rintro e w2 ⟨rfl,e2⟩))
    go_ret;exact ⟨by rw [HV.out];rfl,e1.trans e2⟩
   ·have hv2:=hv.2 (fun h=>h3 (by have:=h.2.2;omega));have HV:=Hi19 hv2;have z3:=zs_not1 h3;have z4:=zs_nnot1 h3;clear hv hv2 hcc h1 h2 h3 hG;go_enter Tryz.func102,Tryz.ntmps102;go_wp2_with (first
     | (go_at_call 163;refine (hc _).mono ?_;rintro e w1 ⟨rfl,e1⟩)
     | (go_at_call 181;((with_reducible refine (icheck_c (zs a) w1 0 ⟨fun _=>rfl,fun h=>absurd RA.out h⟩).mono ?_);rintro e w' ⟨rfl,rfl⟩))
     | (go_at_call 181;refine (icheck_c (zs b) _ 0 ⟨fun _=>rfl,fun h=>absurd RB.out h⟩).mono ?_;rintro e w' ⟨rfl,rfl⟩)
     | (go_at_call 87;refine (HCC.out _).mono ?_;rw [← HC1.out];rintro e w' ⟨rfl,rfl⟩)
     | (go_at_call 182;refine (gcd_c a b _ (g.ext e1) HA.out HB.out (by decide) (by decide)).mono ?_;rw [← HG.out];rintro e w2 ⟨rfl,e2⟩))
    go_ret;exact ⟨by rw [HV.out];rfl,e1.trans e2⟩
 ·have hc1:c<=0:=by
   rw [hcc];by_cases h:b=1
   ·subst h;rw [icmp_eq];omega
   ·rw [icmp_lt (by omega)];omega
  have hv2:=hv.2 (fun h=>h1 h.1);have HV:=Hi19 hv2;clear hv hv2 hcc h1;go_enter Tryz.func102,Tryz.ntmps102;go_wp2_with (first
   | (go_at_call 163;refine (hc _).mono ?_;rintro e w1 ⟨rfl,e1⟩)
   | (go_at_call 181;((with_reducible refine (icheck_c (zs a) w1 0 ⟨fun _=>rfl,fun h=>absurd RA.out h⟩).mono ?_);rintro e w' ⟨rfl,rfl⟩))
   | (go_at_call 181;refine (icheck_c (zs b) _ 0 ⟨fun _=>rfl,fun h=>absurd RB.out h⟩).mono ?_;rintro e w' ⟨rfl,rfl⟩)
   | (go_at_call 87;refine (HCC.out _).mono ?_;rw [← HC1.out];rintro e w' ⟨rfl,rfl⟩))
  go_ret;exact ⟨by rw [HV.out];rfl,e1⟩
theorem rcheck_c (s:ByteArray) (w:World) (g:Gd w) (v:Int) (hl:s.size<=1000000) (hv:(RightQ s.data.toList->v=0)/\(¬ RightQ s.data.toList->v=2)) :
    Calls Tryz.prog 102 #[.string s] w (Ret w (.int .i64 v)):=by
 rcases slash_cases s.data.toList with hn|⟨x,y,hs,hx⟩
 ·have hc:=fun w=>cut_none s w hn
  by_cases h:RightI s.data.toList
  ·rw [hv.1 ((rightQ_none hn).2 h)];exact rcheck_whole s s _ w hc h
  ·rw [hv.2 (fun e=>h ((rightQ_none hn).1 e))];exact rcheck_bad s s _ false w hc h
 ·have hc:=fun w=>cut_at s x y w hs hx hl
  have hq:=rightQ_at hs hx;by_cases h1:RightI x
  ·by_cases h2:RightI y
   ·obtain ⟨a,rfl,ha⟩:=h1;obtain ⟨b,rfl,hb⟩:=h2;refine rcheck_num s a b v w g hc ha hb ⟨fun ⟨k1,k2,k3⟩=>hv.1 (hq.2 ⟨a,b.natAbs,rfl,?_,ha,hb,by omega,k2,?_⟩),fun hh=>hv.2 (fun e=>hh ?_)⟩
    ·rw [show ((b.natAbs:Nat):Int)=b by omega]
    ·rw [show ((b.natAbs:Nat):Int)=b by omega];exact k3
    ·obtain ⟨a',b',e1,e2,_,_,k1,k2,k3⟩:=hq.1 e;have:=zl_inj e1;have:=zl_inj e2
     subst_vars
     exact ⟨by omega,k2,k3⟩
   ·rw [hv.2 (fun e=>by obtain ⟨a,b,e1,e2,_,h4,_⟩:=hq.1 e;exact h2 ⟨b,e2,by simpa using h4⟩)];exact rcheck_den s ⟨x.toArray⟩ ⟨y.toArray⟩ w hc (by simpa using h1) (by simpa using h2)
  ·rw [hv.2 (fun e=>by obtain ⟨a,b,e1,e2,h3,_⟩:=hq.1 e;exact h1 ⟨a,e1,h3⟩)];exact rcheck_bad s ⟨x.toArray⟩ ⟨y.toArray⟩ true w hc (by simpa using h1)
theorem split_neg (s t:ByteArray) (w:World) (h:0<s.size) (h2:(s[0].toNat:Int)=45) (ht:s.extract 1 s.size=t) :
    Calls Tryz.prog 149 #[.string s] w (Ret w (.tuple #[.bool true,.string t])):=by
 have hp':(0:Int)<s.size:=by omega
 have hp1:1<=s.size:=h;have HT:=Hi19 ht;clear ht;go_enter Tryz.func149,Tryz.ntmps149;go_wp2;go_region
 all_goals
  go_wp2;go_ret2;exact ⟨by rw [← HT.out];rfl,(Ext.refl _).drew⟩
theorem split_pos (s:ByteArray) (w:World) (h:0<s.size) (h2:¬ (s[0].toNat:Int)=45) :
    Calls Tryz.prog 149 #[.string s] w (Ret w (.tuple #[.bool false,.string s])):=by
 have hp':(0:Int)<s.size:=by omega
 go_enter Tryz.func149,Tryz.ntmps149;go_wp2;go_ret2;exact ⟨rfl,Ext.refl _⟩
theorem split_empty (s:ByteArray) (w:World) (h:¬ (0:Int)<s.size) :
    Calls Tryz.prog 149 #[.string s] w (Ret w (.tuple #[.bool false,.string s])):=by
 go_enter Tryz.func149,Tryz.ntmps149;go_wp2;go_ret2;exact ⟨rfl,Ext.refl _⟩
theorem split_any (s:ByteArray) (w:World):Calls Tryz.prog 149 #[.string s] w (Ret w (.tuple #[.bool (Lib.hasPrefix s.data.toList [45]),.string ⟨(Lib.trimPrefix s.data.toList [45]).toArray⟩])):=by
 have hsz:=size_list s;rcases trim_cases s.data.toList with ⟨t,e,e1,e2⟩|⟨h0,e1,e2⟩
 ·rw [e1,e2];have h:0<s.size:=by rw [hsz,e];simp
  refine split_neg s _ w h ?_ ?_
  ·rw [bytes_getElem _ 0 h];simp only [e];rfl
  ·apply bytes_ext;rw [ByteArray.data_extract,Array.toList_extract,e,hsz,e];simp
 ·rw [e1,e2,← arr_list s];by_cases h:0<s.size
  ·refine split_pos s w h ?_;rw [bytes_getElem _ 0 h,head_45];intro e;cases hl:s.data.toList with
   | nil=>rw [hl] at e;simp at e
   | cons b t=>rw [hl] at e;simp at e;subst e;exact h0 t hl
  ·exact split_empty s w (by omega)
theorem split_c (n:Int) (w:World):Calls Tryz.prog 149 #[.string (zs n)] w (Ret w (.tuple #[.bool (decide (n<0)),.string (zs (n.natAbs:Int))])):=by
 have:=split_any (zs n) w;rw [zs_list,has_zl,trim_zl] at this;rw [show zs (n.natAbs:Int)=⟨(Lib.decDigits n.natAbs).toArray⟩ by unfold zs;rw [zl_nat]];exact this
theorem fsign_c (n:Int) (w:World):Calls Tryz.prog 144 #[.string (zs n)] w (Ret w (.int .i64 n.sign)):=by
 obtain ⟨B,hB⟩:∃ B,B=decide (n<0):=⟨_,rfl⟩
 have HB:=Hi19 hB;rcases Int.lt_trichotomy n 0 with h|h|h
 ·have hb:B=true:=by rw [hB];simpa using h
  subst hb;have H:Hid (n.sign=-1):=Hi19 (Int.sign_eq_neg_one_of_neg h);clear hB h;go_enter Tryz.func144,Tryz.ntmps144;go_wp2_with (go_at_call 149;refine (split_c n _).mono ?_;rw [← HB.out];rintro e w1 ⟨rfl,e1⟩);go_ret;exact ⟨by rw [H.out];rfl,e1⟩
 ·have hb:B=false:=by rw [hB];simp;omega
  subst hb;have h1:=zs_is0 h;have H:Hid (n.sign=0):=Hi19 (by rw [h];rfl);clear hB h;go_enter Tryz.func144,Tryz.ntmps144;go_wp2_with (go_at_call 149;refine (split_c n _).mono ?_;rw [← HB.out];rintro e w1 ⟨rfl,e1⟩);go_ret;exact ⟨by rw [H.out];rfl,e1⟩
 ·have hb:B=false:=by rw [hB];simp;omega
  subst hb;have h1:=zs_not0 (n:=n) (by omega);have H:Hid (n.sign=1):=Hi19 (Int.sign_eq_one_of_pos h);clear hB h;go_enter Tryz.func144,Tryz.ntmps144;go_wp2_with (go_at_call 149;refine (split_c n _).mono ?_;rw [← HB.out];rintro e w1 ⟨rfl,e1⟩);go_ret;exact ⟨by rw [H.out];rfl,e1⟩
theorem fneg_c (n:Int) (w:World) (hl:(zl n).length<=100000):Calls Tryz.prog 261 #[.string (zs n)] w (Ret w (.string (zs (-n)))):=by
 obtain ⟨B,hB⟩:∃ B,B=decide (n<0):=⟨_,rfl⟩
 have HB:=Hi19 hB;have hl2:(zs (n.natAbs:Int)).size<=100000:=by
  rw [zs_nat_size];have:=unsign_zl n;rcases Int.lt_or_le n 0 with h|h
  ·rw [zl_neg h] at hl;simp at hl;omega
  ·rw [zl_pos h] at hl;exact hl
 rcases Int.lt_trichotomy n 0 with h|h|h
 ·have hb:B=true:=by rw [hB];simpa using h
  subst hb;have H:Hid ((n.natAbs:Int)=-n):=Hi19 (by omega);clear hB h;go_enter Tryz.func261,Tryz.ntmps261;go_wp2_with (go_at_call 149;refine (split_c n _).mono ?_;rw [← HB.out];rintro e w1 ⟨rfl,e1⟩);go_ret;exact ⟨ret_str H.out,e1⟩
 ·have hb:B=false:=by rw [hB];simp;omega
  subst hb;have h1:=zs_is0 h;have H:Hid ((n.natAbs:Int)=-n):=Hi19 (by omega);clear hB h;go_enter Tryz.func261,Tryz.ntmps261;go_wp2_with (go_at_call 149;refine (split_c n _).mono ?_;rw [← HB.out];rintro e w1 ⟨rfl,e1⟩);go_ret;exact ⟨ret_str H.out,e1⟩
 ·have hb:B=false:=by rw [hB];simp;omega
  subst hb;have h1:=zs_not0 (n:=n) (by omega);have H:Hid ((⟨#[45]⟩:ByteArray) ++ zs (n.natAbs:Int)=zs (-n)):=Hi19 (by rw [show (n.natAbs:Int)=n by omega];exact zs_neg_pos h);clear hB h;go_enter Tryz.func261,Tryz.ntmps261;go_wp2_with (go_at_call 149;refine (split_c n _).mono ?_;rw [← HB.out];rintro e w1 ⟨rfl,e1⟩);go_ret;exact ⟨ret_qs H.out,e1⟩
theorem fabs_c (n:Int) (w:World):Calls Tryz.prog 218 #[.string (zs n)] w (Ret w (.string (zs (n.natAbs:Int)))):=by
 go_enter Tryz.func218,Tryz.ntmps218;go_wp2_with (go_at_call 149;refine (split_c n _).mono ?_;rintro e w1 ⟨rfl,e1⟩);go_ret;exact ⟨rfl,e1⟩
theorem fof_c (n:Int) (h0:-9223372036854775808<=n) (h1:n<=9223372036854775807) (w:World) (g:Gd w):Calls Tryz.prog 119 #[.int .i64 n] w (Ret w (.string (zs n))):=by
 have H:=Hi19 (And.intro h0 h1);clear h0 h1;go_enter Tryz.func119,Tryz.ntmps119;go_wp2_with (go_at_call 193;refine (itoa_c n H.out.1 H.out.2 _ g).mono ?_;rintro e w' ⟨rfl,e1⟩);go_ret;exact ⟨rfl,e1⟩
theorem quo_low (d:Int) (h0:0<=d) (h9:d<=9):(-9223372036854775808+d).tdiv 10<=-922337203685477579:=by
 rw [show (-9223372036854775808+d)=-(9223372036854775808-d) by omega,Int.neg_tdiv,Int.tdiv_eq_ediv_of_nonneg (by omega)];omega
theorem quo_low' (d:Int) (h0:0<=d) (h9:d<=9):-9223372036854775808<=(-9223372036854775808+d).tdiv 10:=by
 rw [show (-9223372036854775808+d)=-(9223372036854775808-d) by omega,Int.neg_tdiv,Int.tdiv_eq_ediv_of_nonneg (by omega)];omega
theorem fsmall_c (n:Int) (w:World) (hl:n.natAbs<1000000000000000000):Calls Tryz.prog 150 #[.string (zs n)] w (Ret w (.tuple #[.int .i64 n,.bool true])):=by
 obtain ⟨B,hB⟩:∃ B,B=decide (n<0):=⟨_,rfl⟩
 have HB:=Hi19 hB;obtain ⟨s,hs⟩:∃ s,s=zs (n.natAbs:Int):=⟨_,rfl⟩
 have HS:=Hi19 hs;have hsl:s.data.toList=[] ++ Lib.decDigits n.natAbs ++ []:=by rw [hs,zs_list,zl_nat];simp
 have hd:=dgAt_mid hsl (dec_digs _);have hsv:=sval_mid hsl;have hsz:s.size=(Lib.decDigits n.natAbs).length:=by rw [hs,zs_nat_size]
 simp only [List.length_nil,Nat.zero_add] at hd hsv;rw [← hsz] at hd hsv;rw [dec_val] at hsv;have hs18:s.size<=18:=by rw [hsz];exact dec_len_le (k:=18) (by decide) hl
 have HD:=Hi19 hd;have HV:=Hi19 hsv;clear hs hsl hd hsv hsz hB;go_enter Tryz.func150,Tryz.ntmps150;go_wp2_with (go_at_call 149;refine (split_c n _).mono ?_;rw [← HB.out,← HS.out];rintro e w1 ⟨rfl,e1⟩);go_loop [6,7] (fun m i=>∃ (k N:Nat),k<=s.size/\i = .int .i64 k/\m = .int .i64 (-(N:Int))/\N<1000000000000000000/\Hid (N=sval s 0 k)) (fun _ i=>s.size-(intOf i).toNat)
 case atStart=>exact ⟨0,0,Nat.zero_le _,rfl,rfl,by omega,Hi19 (sval_start s 0).symm⟩
 case round =>
  obtain ⟨k,N,hk,rfl,rfl,hN,HN⟩:=hrel;by_cases hlt:k<s.size
  ·obtain ⟨_,d1,d2⟩:=HD.out k (Nat.zero_le _) hlt;have hst:=sval_step s 0 k (Nat.zero_le _) hlt;have hb:N<100000000000000000:=by
    rw [HN.out];have h1:=sval_lt s 0 s.size k HD.out (Nat.zero_le _) hk;have h2:10 ^ (k-0)<=10 ^ 17:=Nat.pow_le_pow_right (by decide) (by omega);exact Nat.lt_of_lt_of_le h1 h2
   have HST:=Hi19 hst;have q1:=quo_low ((s[k].toNat:Int)-48) (by omega) (by omega);have q2:=quo_low' ((s[k].toNat:Int)-48) (by omega) (by omega);obtain ⟨q,hq⟩:∃ q,q=(-9223372036854775808+((s[k].toNat:Int)-48)).tdiv 10:=⟨_,rfl⟩
   clear hst;go_wp2;go_round
   case rel=>exact ⟨k+1,10*N+(s[k].toNat-48),by omega,by go_num,by simp only [Value.int.injEq,true_and];omega,by omega,Hi19 (by rw [HST.out,HN.out])⟩
   case measure=>simp [intOf];omega
  ·obtain rfl:s.size=k:=by omega
   have hN':N=n.natAbs:=by rw [HN.out,HV.out]
   have HN':=Hi19 hN';clear hN';cases B
   ·have hn:¬ n<0:=of_decide_eq_false HB.out.symm;have E:Hid ((N:Int)=n):=Hi19 (by have:=HN'.out;omega);clear hn;go_wp2;go_ret2;exact ⟨by rw [← E.out];simp,e1⟩
   ·have hn:n<0:=of_decide_eq_true HB.out.symm;have E:Hid (-(N:Int)=n):=Hi19 (by have:=HN'.out;omega);clear hn;go_wp2;go_ret2;exact ⟨by rw [← E.out];rfl,e1⟩
theorem brief_yes (n:Int) (w:World) (h:(Lib.decDigits n.natAbs).length<=17):Calls Tryz.prog 219 #[.string (zs n)] w (Ret w (.tuple #[.int .i64 n,.bool true])):=by
 have hs:¬ (17:Int)<(zs (n.natAbs:Int)).size:=by rw [zs_nat_size];omega
 have H:=Hi19 (lt_of_dec_len h);clear h;go_enter Tryz.func219,Tryz.ntmps219;go_wp2_with (first
  | (go_at_call 149;refine (split_c n _).mono ?_;rintro e w1 ⟨rfl,e1⟩)
  | (go_at_call 150;refine (fsmall_c n _ (Nat.lt_of_lt_of_le H.out (by decide))).mono ?_;rintro e w2 ⟨rfl,e2⟩))
 go_ret2;exact ⟨rfl,e1.trans e2⟩
theorem brief_no (n:Int) (w:World) (h:¬ (Lib.decDigits n.natAbs).length<=17):Calls Tryz.prog 219 #[.string (zs n)] w (Ret w (.tuple #[.int .i64 0,.bool false])):=by
 have hs:(17:Int)<(zs (n.natAbs:Int)).size:=by rw [zs_nat_size];omega
 go_enter Tryz.func219,Tryz.ntmps219;go_wp2_with (first
  | (go_at_call 149;refine (split_c n _).mono ?_;rintro e w1 ⟨rfl,e1⟩))
 go_ret2;exact ⟨rfl,e1⟩
theorem canon_go (a s:ByteArray) (mi v:Bool) (w:World) (hc:∀ w,Calls Tryz.prog 149 #[.string a] w (Ret w (.tuple #[.bool mi,.string s]))) (hs:s.size<=1000000)
    (hv:Hid ((¬ Dg s->v=false)/\(Dg s->(s.size=0->v=false)/\(∀ h:0<s.size,((s[0].toNat:Int)=48->(mi=true∨1<s.size)->v=false)/\((s[0].toNat:Int)=48->mi=false->s.size<=1->v=true)/\(¬ (s[0].toNat:Int)=48->v=true))))) :
    Calls Tryz.prog 216 #[.string a] w (Ret w (.bool v)):=by
 go_enter Tryz.func216,Tryz.ntmps216;go_wp2_with (go_at_call 149;refine (hc _).mono ?_;rintro e w1 ⟨rfl,e1⟩);go_loop [5] (fun i=>∃ k:Nat,k<=s.size/\i = .int .i64 k/\Hid (∀ j (h:j<s.size),j<k->48<=(s[j].toNat:Int)/\(s[j].toNat:Int)<=57)) (fun i=>s.size-(intOf i).toNat)
 case atStart=>exact ⟨0,Nat.zero_le _,rfl,Hi19 (fun j h h'=>by omega)⟩
 case round =>
  obtain ⟨k,hk,rfl,hdg⟩:=hrel;by_cases hlt:k<s.size
  ·rcases Int.lt_or_le (s[k].toNat:Int) 48 with hd|hd
   ·have e2:v=false:=hv.out.1 (fun h=>by have:=(h k hlt).1;omega);have E2:=Hi19 e2;clear e2;go_wp2;go_ret;exact ⟨by rw [E2.out];rfl,e1⟩
   ·rcases Int.lt_or_le 57 (s[k].toNat:Int) with hd2|hd2
    ·have e2:v=false:=hv.out.1 (fun h=>by have:=(h k hlt).2;omega);have E2:=Hi19 e2;clear e2;go_wp2;go_ret;exact ⟨by rw [E2.out];rfl,e1⟩
    ·have HD:=Hi19 (And.intro hd hd2);go_wp2;go_round
     case rel=>exact ⟨k+1,by omega,by go_num,Hi19 (fun j h h'=>by
      by_cases e:j=k
      ·subst e;exact HD.out
      ·exact hdg.out j h (by omega))⟩
     case measure=>simp [intOf];omega
  ·have hall:=hv.out.2 (fun j h=>hdg.out j h (by omega));have HALL:=Hi19 hall;clear hall;by_cases h0:s.size=0
   ·have E2:=Hi19 (HALL.out.1 h0);have h0':(s.size:Int)=0:=by omega
    clear h0;go_wp2;go_ret;exact ⟨by rw [E2.out];rfl,e1⟩
   ·have h1:0<s.size:=by omega
    have h1':(0:Int)<s.size:=by omega
    have h0':¬ (s.size:Int)=0:=by omega
    by_cases h48:(s[0].toNat:Int)=48
    ·cases mi
     ·by_cases h2:1<s.size
      ·have E2:=Hi19 ((HALL.out.2 h1).1 h48 (Or.inr h2));have h2':(1:Int)<s.size:=by omega
       go_wp2;go_ret;exact ⟨by rw [E2.out];rfl,e1⟩
      ·have E2:=Hi19 ((HALL.out.2 h1).2.1 h48 rfl (by omega));have h2':¬ (1:Int)<s.size:=by omega
       go_wp2;go_ret;exact ⟨by rw [E2.out];rfl,e1⟩
     ·have E2:=Hi19 ((HALL.out.2 h1).1 h48 (Or.inl rfl));go_wp2;go_ret;exact ⟨by rw [E2.out];rfl,e1⟩
    ·have E2:=Hi19 ((HALL.out.2 h1).2.2 h48);go_wp2;go_ret;exact ⟨by rw [E2.out];rfl,e1⟩
def CanonI (l:List UInt8):Prop:=∃ n:Int,l=zl n
theorem canon_iff (l t:List UInt8) (mi:Bool) (ht:Lib.trimPrefix l [45]=t) (hm:Lib.hasPrefix l [45]=mi) :
    CanonI l ↔ t≠[]/\(t.head?≠some 48∨(t.length=1/\mi=false))/\∀ b ∈ t,isDig b=true:=by
 rcases trim_cases l with ⟨t',rfl,h1,h2⟩|⟨h0,h1,h2⟩
 ·obtain rfl:t'=t:=by rw [← h1,ht]
  obtain rfl:mi=true:=by rw [← hm,h2]
  constructor
  ·rintro ⟨n,hn⟩;have hneg:n<0:=by rw [← zl_head_neg,← hn];rfl
   rw [zl_neg hneg] at hn;have e:=(List.cons.inj hn).2;obtain ⟨b,r,e2,hb⟩:=dec_head n.natAbs (by omega);exact ⟨by rw [e];exact dec_ne _,Or.inl (by rw [e,e2];simpa using hb),by rw [e];exact dec_digs _⟩
  ·rintro ⟨g1,g3,g4⟩;have g3':t'.head?≠some 48:=by
    rcases g3 with g|⟨_,g⟩
    ·exact g
    ·cases g
   have e:=dec_of_digs t' g1 g4 (Or.inl g3');have hp:val t'≠0:=by intro hv;rw [hv,dec_zero] at e;rw [← e] at g3';simp at g3'
   exact ⟨-(val t':Int),by rw [zl_neg (by omega),Int.natAbs_neg,Int.natAbs_natCast,e]⟩
 ·obtain rfl:l=t:=by rw [← h1,ht]
  obtain rfl:mi=false:=by rw [← hm,h2]
  constructor
  ·rintro ⟨n,hn⟩;have hneg:0<=n:=by
    rcases Int.lt_or_le n 0 with h|h
    ·rw [zl_neg h] at hn;exact absurd hn (h0 _)
    ·exact h
   rw [zl_pos hneg] at hn;refine ⟨by rw [hn];exact dec_ne _,?_,by rw [hn];exact dec_digs _⟩;by_cases hz:n.natAbs=0
   ·right;rw [hn,hz,dec_zero];exact ⟨rfl,rfl⟩
   ·left;obtain ⟨b,r,e2,hb⟩:=dec_head n.natAbs hz;rw [hn,e2];simpa using hb
  ·rintro ⟨g1,g3,g4⟩;have e:=dec_of_digs l g1 g4 (by
    rcases g3 with g|⟨g,_⟩
    ·exact Or.inl g
    ·obtain ⟨b,rfl⟩:=List.length_eq_one_iff.1 g;by_cases hb:b=48
     ·right;rw [hb]
     ·left;simp [hb])
   exact ⟨(val l:Int),by rw [zl_nat,e]⟩
theorem head_48:∀ (l:List UInt8) (h:0<l.length),((l[0].toNat:Int)=48 ↔ l.head?=some 48)
 | b :: t,_=>by
  simp only [List.getElem_cons_zero,List.head?_cons,Option.some.injEq];constructor
  ·intro e;apply UInt8.toNat_inj.1;show b.toNat=48;omega
  ·intro e;rw [e];rfl
theorem canon_c (a:ByteArray) (v:Bool) (w:World) (hs:a.size<=1000000) (hv:(CanonI a.data.toList->v=true)/\(¬ CanonI a.data.toList->v=false)) :
    Calls Tryz.prog 216 #[.string a] w (Ret w (.bool v)):=by
 obtain ⟨t,ht⟩:∃ t,Lib.trimPrefix a.data.toList [45]=t:=⟨_,rfl⟩
 obtain ⟨mi,hm⟩:∃ mi,Lib.hasPrefix a.data.toList [45]=mi:=⟨_,rfl⟩
 have hc:=split_any a;rw [ht,hm] at hc;have hiff:=canon_iff a.data.toList t mi ht hm;obtain ⟨s,hst⟩:∃ s:ByteArray,s=⟨t.toArray⟩:=⟨_,rfl⟩
 rw [← hst] at hc;have hl:s.data.toList=t:=by rw [hst]
 have hsz:s.size=t.length:=by rw [size_list,hl]
 have htl:t.length<=a.data.toList.length:=by
  rcases trim_cases a.data.toList with ⟨t',e,e1,_⟩|⟨_,e1,_⟩
  ·rw [← ht,e1,e];simp
  ·rw [← ht,e1];exact Nat.le_refl _
 clear hst;have hdg:Dg s ↔ ∀ b ∈ t,isDig b=true:=by rw [dg_iff,hl]
 refine canon_go a s mi v w hc (by rw [← size_list a] at htl;omega) (Hi19 ⟨fun h=>hv.2 (fun e=>h (hdg.2 (hiff.1 e).2.2)),fun h=>⟨fun h0=>hv.2 (fun e=>(hiff.1 e).1 (List.length_eq_zero_iff.1 (by omega))),fun h1=>?_⟩⟩);have h48:(s[0].toNat:Int)=48 ↔ t.head?=some 48:=by rw [bytes_getElem _ 0 h1,head_48,hl]
 have hne:t≠[]:=by intro e;rw [e,List.length_nil] at hsz;omega
 refine ⟨fun e hh=>hv.2 (fun hc=>?_),fun e hm0 h2=>hv.1 (hiff.2 ⟨hne,Or.inr ⟨by omega,hm0⟩,hdg.1 h⟩),fun e=>hv.1 (hiff.2 ⟨hne,Or.inl (fun hh=>e (h48.2 hh)),hdg.1 h⟩)⟩;rcases (hiff.1 hc).2.1 with k|⟨k1,k2⟩
 ·exact k (h48.1 e)
 ·rcases hh with hh|hh
  ·rw [k2] at hh;cases hh
  ·omega
theorem rightI_canon (l t:List UInt8) (ht:Lib.trimPrefix l [45]=t):RightI l ↔ CanonI l/\t.length<=200:=by
 have h1:=right_iff l t _ ht rfl;have h2:=canon_iff l t _ ht rfl;rw [h1,h2];constructor
 ·rintro ⟨a,b,c,d⟩;exact ⟨⟨a,c,d⟩,b⟩
 ·rintro ⟨⟨a,c,d⟩,b⟩;exact ⟨a,b,c,d⟩
theorem fright_c (a:ByteArray) (v:Bool) (w:World) (hs:a.size<=1000000) (hv:(RightI a.data.toList->v=true)/\(¬ RightI a.data.toList->v=false)) :
    Calls Tryz.prog 145 #[.string a] w (Ret w (.bool v)):=by
 obtain ⟨t,ht⟩:∃ t,Lib.trimPrefix a.data.toList [45]=t:=⟨_,rfl⟩
 obtain ⟨mi,hm⟩:∃ mi,Lib.hasPrefix a.data.toList [45]=mi:=⟨_,rfl⟩
 have hc:=split_any a;rw [ht,hm] at hc;have hri:=rightI_canon a.data.toList t ht;obtain ⟨s,hst⟩:∃ s:ByteArray,s=⟨t.toArray⟩:=⟨_,rfl⟩
 rw [← hst] at hc;have hsz:s.size=t.length:=by rw [size_list,hst]
 clear hst;have HC:=Hi19 hc;by_cases h1:CanonI a.data.toList
 ·have K:=Hi19 (fun w=>canon_c a true w hs ⟨fun _=>rfl,fun h=>absurd h1 h⟩);by_cases h2:t.length<=200
  ·have E:=Hi19 (hv.1 (hri.2 ⟨h1,h2⟩));have h2':(s.size:Int)<=200:=by omega
   clear hv hri hc h1 h2 hsz ht hm;go_enter Tryz.func145,Tryz.ntmps145;go_wp2_with (first
    | (go_at_call 149;refine (HC.out _).mono ?_;rintro e w1 ⟨rfl,e1⟩)
    | (go_at_call 216;refine (K.out _).mono ?_;rintro e w2 ⟨rfl,e2⟩))
   go_ret;exact ⟨by rw [E.out];rfl,e1.trans e2⟩
  ·have E:=Hi19 (hv.2 (fun h=>h2 (hri.1 h).2));have h2':¬ (s.size:Int)<=200:=by omega
   have h2'':decide ((s.size:Int)<=200)=false:=by simpa using h2'
   clear hv hri hc h1 h2 hsz ht hm;go_enter Tryz.func145,Tryz.ntmps145;go_wp2_with (first
    | (go_at_call 149;refine (HC.out _).mono ?_;rintro e w1 ⟨rfl,e1⟩)
    | (go_at_call 216;refine (K.out _).mono ?_;rintro e w2 ⟨rfl,e2⟩))
   go_ret;exact ⟨by rw [E.out];rfl,e1.trans e2⟩
 ·have K:=Hi19 (fun w=>canon_c a false w hs ⟨fun h=>absurd h h1,fun _=>rfl⟩);have E:=Hi19 (hv.2 (fun h=>h1 (hri.1 h).1));clear hv hri hc h1 hsz ht hm;go_enter Tryz.func145,Tryz.ntmps145;go_wp2_with (first
   | (go_at_call 149;refine (HC.out _).mono ?_;rintro e w1 ⟨rfl,e1⟩)
   | (go_at_call 216;refine (K.out _).mono ?_;rintro e w2 ⟨rfl,e2⟩))
  go_ret;exact ⟨by rw [E.out];rfl,e1.trans e2⟩
def RMag (w:World) (v:Value) (n:Nat):Prop:=∃ l,Holds .i64 w v l/\Canon 10000 l/\mv 10000 l=n
theorem RMag.ext {w w':World} {v:Value} {n:Nat} (h:RMag w v n) (e:Ext w w'):RMag w' v n :=
 let ⟨l,h1,h2,h3⟩:=h;⟨l,h1.ext e,h2,h3⟩
theorem RMag.slice {w:World} {v:Value} {n:Nat} (h:RMag w v n):∃ ad len cap,v = .slice ad len cap:=by
 obtain ⟨l,⟨ad,cap,b,off,hv,_⟩,_⟩:=h;exact ⟨ad,_,cap,hv⟩
theorem RMag.zero (w:World):RMag w (.slice none 0 0) 0:=⟨[],Holds.nil _ _,Canon.nil _,rfl⟩
theorem RMag.len_iff {w:World} {ad:Option Addr} {n c N:Nat} (h:RMag w (.slice ad n c) N):n=0 ↔ N=0:=by
 obtain ⟨l,⟨ad',cap,b,off,hv,_⟩,hc,hm⟩:=h;simp only [Value.slice.injEq] at hv;rw [hv.2.1];constructor
 ·intro e;have:l=[]:=List.length_eq_zero_iff.1 e;subst this;exact hm.symm
 ·intro e;rw [hc.nil_of_zero (by decide) (by rw [hm,e])];rfl
def fitR:Nat:=5000
structure RFit (n:Nat):Prop where
 out:n<10000 ^ fitR
theorem RFit.len {n:Nat} {l:List Nat} (h:RFit n) (c:Canon 10000 l) (e:mv 10000 l=n):l.length<=5000 :=
 pow_len_le (k:=fitR) (by decide) c (by rw [e];exact h.out)
theorem RFit.mono {a b:Nat} (h:RFit a) (hb:b<=a):RFit b:=⟨Nat.lt_of_le_of_lt hb h.out⟩
theorem IB.rfit {k:Nat} {a:Int} (h:IB k a) (hk:k<=18000):RFit a.natAbs :=
 ⟨Nat.lt_of_lt_of_le h.out (by rw [show (10000:Nat)=10 ^ 4 by decide,← Nat.pow_mul];exact Nat.pow_le_pow_right (by decide) (Nat.le_trans hk (by decide)))⟩
theorem Tryz.infoInt:(Tryz.prog.info? 3).map (fun i=>(i.zero,i.size,i.bytes))=some (some (.int .i64 0),1,8):=by kernel_rfl
theorem Tryz.sizeInt (w:World):(sizeOf 3).run Tryz.prog w = .ok 1 w:=by kernel_rfl
def CutPostK (w:World) (l:List Nat) (v:Value) (e:Ending) (w':World):Prop :=
 ∃ v',e = .returned v'/\w=w'/\RMag w v' (mv 10000 l)/\∃ ad n k cap,v = .slice ad n cap/\v' = .slice ad k cap
def LessPost (w:World) (b:Bool) (e:Ending) (w':World):Prop:=e = .returned (.bool b)/\Ext w w'
theorem cut_holds {w:World} {l:List Nat} {b off cap n k:Nat} (hn:n=l.length) (hk:k<=n) (hcap:n<=cap) (hmax:cap<=9223372036854775807) (hb:b<w.heap.size)
    (hc:∀ i,i<l.length->w.cell? ⟨b,off+i,none⟩=some (.int .i64 ((l.getD i 0:Nat):Int))) (hl:Below' 10000 l) (hz:∀ i (h:i<l.length),k<=i->l[i]=0)
    (hlast:k=0∨l[k-1]?.getD 0≠0):RMag w (.slice (some ⟨b,off,none⟩) k cap) (mv 10000 l):=by
 have hlen:(l.take k).length=k:=by rw [List.length_take];omega
 have ht:=trim_ok (B:=10000) (l:=l) (k:=k) (by omega) hl hz (by
  rcases hlast with h|h
  ·exact Or.inl h
  ·by_cases h0:k=0
   ·exact Or.inl h0
   ·exact Or.inr ⟨by omega,by simpa [show k-1<l.length by omega] using h⟩)
 refine ⟨l.take k,Holds.some hlen (by omega) hmax hb (fun i hi=>?_),ht.1,ht.2⟩;rw [hc i (by rw [hlen] at hi;omega)];rw [hlen] at hi;simp [hi]
set_option maxHeartbeats 400000 in
theorem cut_k (l:List Nat) (v:Value) (w:World) (h:Holds .i64 w v l) (hl:Below' 10000 l) :
    Calls Tryz.prog 222 #[v] w (CutPostK w l v):=by
 by_cases hz:0<l.length
 ·obtain ⟨b,off,cap,rfl,hcap,hmax,hb,hc⟩:=h.cells hz;obtain ⟨n,hn⟩:∃ n,n=l.length:=⟨_,rfl⟩
  have hcap':n<=cap:=by omega
  have hn':n<=l.length:=by omega
  rw [← hn];have HN:=Hi19 hn;clear hn h hz;go_enter Tryz.func222,Tryz.ntmps222;go_wp2;go_loop [0] (fun v=>∃ k:Nat,k<=n/\v = .slice (some ⟨b,off,none⟩) k cap/\∀ i (h:i<l.length),k<=i->l[i]=0)
   (fun v=>match v with | .slice _ k _=>k|_=>0)
  case atStart=>exact ⟨n,Nat.le_refl _,rfl,fun i h1 h2=>by have:=HN.out;omega⟩
  case round =>
   obtain ⟨k,hk,rfl,hz⟩:=hrel;by_cases h0:0<k
   ·have hcell:w.cell? ⟨b,off+(k-1),none⟩=some (.int .i64 ((l.getD (k-1) 0:Nat):Int)):=hc _ (by omega);go_wp2
    ·have h1:(((l[k-1]?.getD 0:Nat):Int) == 0)=true:=by assumption
     go_round
     case rel=>exact ⟨k-1,by omega,rfl,snoc_drop_zero h0 hz (by simpa using h1)⟩
     case measure=>show k-1<k;omega
    ·have h1:(((l[k-1]?.getD 0:Nat):Int) == 0)=false:=by assumption
     go_ret;exact ⟨_,rfl,rfl,cut_holds HN.out hk hcap' hmax hb hc hl hz (Or.inr (by simpa using h1)),_,_,_,_,rfl,rfl⟩
   ·go_wp2;go_ret;exact ⟨_,rfl,rfl,cut_holds HN.out hk hcap' hmax hb hc hl hz (Or.inl (by omega)),_,_,_,_,rfl,rfl⟩
 ·obtain rfl:l=[]:=List.length_eq_zero_iff.1 (by omega);obtain ⟨ad,cap,b,off,rfl,_,hmax,_,_⟩:=h;simp only [List.length_nil];go_enter Tryz.func222,Tryz.ntmps222;go_wp2;go_loop [0] (fun v=>v = .slice ad 0 cap) (fun _=>0)
  case atStart=>rfl
  case round =>
   subst hrel;go_wp2;go_ret;exact ⟨_,rfl,rfl,⟨[],Holds.empty _ _ _ _ hmax,Canon.nil _,rfl⟩,_,_,_,_,rfl,rfl⟩
theorem nless_top {l m:List Nat} {k n:Nat} (hl:l.length=n) (hm:m.length=n) (hk:k<n) (hd:l.drop (k+1)=m.drop (k+1)) (bl:Below' 10000 l)
    (h:l[k]?.getD 0<m[k]?.getD 0):mv 10000 l<mv 10000 m:=by
 have h1:k<l.length:=by omega
 have h2:k<m.length:=by omega
 exact mv_lt_of_top bl (by omega) h1 hd (by simpa [h1,h2] using h)
theorem bool_ret {a b:Bool} (h:a=b):Ending.returned (.bool a) = .returned (.bool b):=by rw [h]
theorem nless_at {l m:List Nat} {k n:Nat} (hl:l.length=n) (hm:m.length=n) (hk:k<n) (hd:l.drop (k+1)=m.drop (k+1)) (bl:Below' 10000 l) (bm:Below' 10000 m)
    (h:l[k]?.getD 0≠m[k]?.getD 0):decide (l[k]?.getD 0<m[k]?.getD 0)=decide (mv 10000 l<mv 10000 m):=by
 by_cases h1:l[k]?.getD 0<m[k]?.getD 0
 ·rw [decide_eq_true h1,decide_eq_true (nless_top hl hm hk hd bl h1)]
 ·have:=nless_top hm hl hk hd.symm bm (by omega);rw [decide_eq_false h1,decide_eq_false (by omega)]
set_option maxHeartbeats 1000000 in
theorem less_c (a b:Nat) (va vb:Value) (w:World) (ha:RMag w va a) (hb:RMag w vb b) :
    Calls Tryz.prog 260 #[va,vb] w (LessPost w (decide (a<b))):=by
 obtain ⟨l,hla,cl,rfl⟩:=ha;obtain ⟨m,hlb,cm,rfl⟩:=hb;obtain ⟨n,hn⟩:∃ n,n=l.length:=⟨_,rfl⟩
 obtain ⟨n',hn'⟩:∃ n',n'=m.length:=⟨_,rfl⟩
 rcases Nat.lt_trichotomy n n' with hlt|heq|hgt
 ·obtain ⟨ad,ca,_,_,rfl,h1,h2,_,_⟩:=hla;obtain ⟨bd,cb,_,_,rfl,h3,h4,_,_⟩:=hlb;rw [← hn] at h1 ⊢;rw [← hn'] at h3 ⊢;have hr:decide (mv 10000 l<mv 10000 m)=true:=decide_eq_true (cl.lt_of_len (by decide) cm (by omega));rw [hr];clear hn hn' hr;go_enter Tryz.func260,Tryz.ntmps260;go_wp2;go_ret
  first|exact ⟨rfl,Ext.refl _⟩|exact ⟨bool_ret (decide_eq_true (by omega)),Ext.refl _⟩
 ·subst heq;by_cases h0:0<n
  ·obtain ⟨b1,o1,ca,rfl,h1,h2,hb1,hc1⟩:=hla.cells (by omega);obtain ⟨b2,o2,cb,rfl,h3,h4,hb2,hc2⟩:=hlb.cells (by omega);rw [← hn] at h1 hc1 ⊢;rw [← hn'] at h3 hc2 ⊢;have HN:=Hi19 hn;have HN':=Hi19 hn';clear hn hn' hla hlb;go_enter Tryz.func260,Tryz.ntmps260;go_wp2;go_loopw [5] (fun i wr=>∃ k:Nat,k<=n/\i = .int .i64 ((k:Int)-1)/\l.drop k=m.drop k/\Ext w wr) (fun i _=>(intOf i+1).toNat)
   case atStart=>exact ⟨n,Nat.le_refl _,rfl,by rw [List.drop_of_length_le (by have:=HN.out;omega),List.drop_of_length_le (by have:=HN'.out;omega)],Ext.refl _⟩
   case round =>
    obtain ⟨k,hk,rfl,hd,hx⟩:=hrel;by_cases hk0:0<k
    ·obtain ⟨j,rfl⟩:∃ j,k=j+1:=⟨k-1,by omega⟩
     have ej:(((j+1:Nat):Int)-1)=(j:Int):=by omega
     rw [ej];clear ej;have g1:wr.cell? ⟨b1,o1+j,none⟩=some (.int .i64 ((l.getD j 0:Nat):Int)):=(hx.cell hb1).trans (hc1 j (by omega));have g2:wr.cell? ⟨b2,o2+j,none⟩=some (.int .i64 ((m.getD j 0:Nat):Int)):=(hx.cell hb2).trans (hc2 j (by omega));have HD:=Hi19 hd;clear hd;go_wp2;go_quiet (fail);go_wp2
     ·have hne:(((l[j]?.getD 0:Nat):Int) != ((m[j]?.getD 0:Nat):Int))=true:=by assumption
      go_quiet (fail);go_wp2;have h2:=ne_nat hne;go_ret;exact ⟨bool_ret (nless_at HN.out.symm HN'.out.symm (by omega) HD.out cl.lt cm.lt h2),(hx.drewN _).drewN _⟩
     ·have hne:(((l[j]?.getD 0:Nat):Int) != ((m[j]?.getD 0:Nat):Int))=false:=by assumption
      go_roundw
      case rel=>exact ⟨j,by omega,rfl,drop_pred HN.out.symm HN'.out.symm (by omega) HD.out (eq_nat hne),hx.drewN _⟩
      case measure=>simp [intOf]
    ·obtain rfl:k=0:=by omega
     go_wp2;go_ret;refine ⟨bool_ret ?_,hx⟩;rw [show l=m from by simpa using hd];simp
  ·obtain ⟨ad,ca,_,_,rfl,h1,h2,_,_⟩:=hla;obtain ⟨bd,cb,_,_,rfl,h3,h4,_,_⟩:=hlb;obtain rfl:l=[]:=List.length_eq_zero_iff.1 (by omega);obtain rfl:m=[]:=List.length_eq_zero_iff.1 (by omega);simp only [List.length_nil];clear hn hn';go_enter Tryz.func260,Tryz.ntmps260;go_wp2;refine wp_loop_rounds 1 ?_;rw [rounds_succ];go_wp2;go_ret;exact ⟨rfl,Ext.refl _⟩
 ·obtain ⟨ad,ca,_,_,rfl,h1,h2,_,_⟩:=hla;obtain ⟨bd,cb,_,_,rfl,h3,h4,_,_⟩:=hlb;rw [← hn] at h1 ⊢;rw [← hn'] at h3 ⊢;have hr:decide (mv 10000 l<mv 10000 m)=false:=decide_eq_false (by have:=cm.lt_of_len (by decide) cl (by omega);omega);rw [hr];clear hn hn' hr;go_enter Tryz.func260,Tryz.ntmps260;go_wp2;go_ret
  first|exact ⟨rfl,Ext.refl _⟩|exact ⟨bool_ret (decide_eq_false (by omega)),Ext.refl _⟩
end Go.Proofs.YtmahadmefplbnaaGreatDoor
