/- Part 10. -/
import Derived.Test.YtmahadmefplbnaaGreatDoorQFUB
import Derived.Test.YtmahadmefplbnaaGreatDoorQFU5
import Derived.Test.YtmahadmefplbnaaGreatDoorQFU9
set_option maxRecDepth 100000
set_option maxHeartbeats 2000000
namespace Go.Proofs.YtmahadmefplbnaaGreatDoor
open Go Go.RowKit
theorem toList_data (s:ByteArray):s.toList=s.data.toList:=by
 first|exact ByteArray.toList_eq s|simp
theorem dR (n:Int):(zs n).toList=zl n:=by rw [toList_data,bJ]
theorem eF (q:Rat):(qs q).toList=ql q:=by rw [toList_data,dZ]
theorem qh {n:Int}:zl n=[48] ↔ n=0:=⟨fun h=>gB (by rw [h,yO]),fun h=>by rw [h,yO]⟩
theorem qg {n:Int}:zl n=[49] ↔ n=1:=⟨fun h=>gB (by rw [h,yN]),fun h=>by rw [h,yN]⟩
theorem kK {n:Int} (h:n=0):((zs n).toList == [48])=true:=by rw [dR,qh.2 h];rfl
theorem fh {n:Int} (h:n≠0):((zs n).toList == [48])=false:=by rw [dR];simpa using fun e=>h (qh.1 e)
theorem qe {n:Int} (h:n=1):((zs n).toList == [49])=true:=by rw [dR,qg.2 h];rfl
theorem lU {n:Int} (h:n≠1):((zs n).toList == [49])=false:=by rw [dR];simpa using fun e=>h (qg.1 e)
theorem AG (n:Int) (w:World):Calls Tryz.prog 233 #[.string (zs n),.string ⟨#[45]⟩] w fun e w'=>e = .returned (.bool (decide (n<0)))/\w=w':=by
 refine (Tryz.strings_HasPrefix (zs n) ⟨#[45]⟩ w).mono fun e w' ⟨h1,h2⟩=>⟨?_,h2.symm⟩
 rw [bJ,show (⟨#[45]⟩:ByteArray).data.toList=[45] from rfl,uK] at h1;exact h1
theorem gC (n:Int) (w:World):Calls Tryz.prog 165 #[.string (zs n),.string ⟨#[45]⟩] w fun e w'=>e = .returned (.string (zs n.natAbs))/\w=w':=by
 refine (Tryz.strings_TrimPrefix (zs n) ⟨#[45]⟩ w).mono fun e w' ⟨h1,h2⟩=>⟨?_,h2.symm⟩
 rw [bJ,show (⟨#[45]⟩:ByteArray).data.toList=[45] from rfl,qp] at h1;rw [h1];unfold zs;rw [cY]
theorem dI (n:Int) (w:World):Calls Tryz.prog 164 #[.string (zs n)] w fun e w'=>e = .returned (.int .i64 n.sign)/\w=w':=by
 by_cases h0:n=0
 ·have h1:=kK h0;have h2:n.sign=0:=by rw [h0];rfl
  have H2:=ai h2;clear h0 h2;go_enter Tryz.func164,Tryz.ntmps164;go_wp2_with fail;go_ret;exact ⟨by rw [H2.o];rfl,rfl⟩
 ·have h1:=fh h0;by_cases hn:n<0
  ·have h2:n.sign=-1:=Int.sign_eq_neg_one_of_neg hn;have H2:=ai h2;clear h0 h2;go_enter Tryz.func164,Tryz.ntmps164;go_wp2_with (go_at_call 233;refine (AG n _).mono ?_;rintro e w' ⟨rfl,rfl⟩);go_ret;exact ⟨by rw [H2.o];rfl,rfl⟩
  ·have h2:n.sign=1:=Int.sign_eq_one_of_pos ae;have H2:=ai h2;clear h0 h2;go_enter Tryz.func164,Tryz.ntmps164;go_wp2_with (go_at_call 233;refine (AG n _).mono ?_;rintro e w' ⟨rfl,rfl⟩);go_ret;exact ⟨by rw [H2.o];rfl,rfl⟩
theorem jt {n:Int} (h:0<n):(⟨#[45]⟩:ByteArray) ++ zs n=zs (-n):=by
 apply cg;rw [bJ,bW ae,Int.natAbs_neg];show (⟨#[45]⟩ ++ zs n:ByteArray).data.toList=_;rw [ByteArray.data_append,Array.toList_append,bJ,b6 ae];rfl
theorem Bt {n:Int} (h:n<0):(zs n).extract 1 (zs n).size=zs (-n):=by
 apply cg;rw [ByteArray.data_extract,Array.toList_extract,bJ,bJ,dm,bW h,b6 (show 0<=-n by omega),Int.natAbs_neg];simp
theorem DZ (n:Int):0<(zs n).size:=by
 rw [dm];exact List.length_pos_iff.2 (rI n)
theorem DG (n:Int) (w:World) (hl:(zl n).length<=100000):Calls Tryz.prog 248 #[.string (zs n)] w fun e w'=>e = .returned (.string (zs (-n)))/\w=w':=by
 have hp:=DZ n;have hp1:1<=(zs n).size:=hp;rw [← dm] at hl;rcases Int.lt_trichotomy n 0 with h|h|h
 ·have h2:n.sign=-1:=Int.sign_eq_neg_one_of_neg h;have H:=ai h;have H2:=ai (Bt h);clear h;go_enter Tryz.func248,Tryz.ntmps248;go_wp2_with (go_at_call 164;refine (dI n _).mono ?_;rw [h2];rintro e w' ⟨rfl,rfl⟩);go_ret;exact ⟨by rw [← H2.o];rfl,rfl⟩
 ·subst h;go_enter Tryz.func248,Tryz.ntmps248;go_wp2_with (go_at_call 164;refine (dI 0 _).mono ?_;rintro e w' ⟨rfl,rfl⟩);go_ret;exact ⟨rfl,rfl⟩
 ·have h2:n.sign=1:=Int.sign_eq_one_of_pos h;have H:=ai h;have H2:=ai (jt h);clear h;go_enter Tryz.func248,Tryz.ntmps248;go_wp2_with (go_at_call 164;refine (dI n _).mono ?_;rw [h2];rintro e w' ⟨rfl,rfl⟩);go_ret;exact ⟨by rw [← H2.o];rfl,rfl⟩
theorem GO (n:Int) (w:World):Calls Tryz.prog 244 #[.string (zs n)] w fun e w'=>e = .returned (.string (zs n.natAbs))/\w=w':=by
 go_enter Tryz.func244,Tryz.ntmps244;go_wp2_with (go_at_call 165;refine (gC n _).mono ?_;rintro e w' ⟨rfl,rfl⟩);go_ret;exact ⟨rfl,rfl⟩
theorem uA (n:Int) (h0:-9223372036854775808<=n) (h1:n<=9223372036854775807) (w:World) (g:Gd w):Calls Tryz.prog 168 #[.int .i64 n] w (aC w (.string (zs n))):=by
 have H:=ai (And.intro h0 h1);clear h0 h1;go_enter Tryz.func168,Tryz.ntmps168;go_wp2_with (go_at_call 193;refine (gg n H.o.1 H.o.2 _ g).mono ?_;rintro e w' ⟨rfl,e1⟩);go_ret;exact ⟨rfl,e1⟩
theorem dE (n most:Int) (w:World) (h:most<(zl n).length):Calls Tryz.prog 167 #[.string (zs n),.int .i64 most] w (aC w (.tuple #[.int .i64 0,.bool false])):=by
 rw [← dm] at h;go_enter Tryz.func167,Tryz.ntmps167;go_wp2_with fail;go_ret2;exact ⟨rfl,Ext.refl _⟩
theorem cS (n most:Int) (w:World) (h:(zl n).length<=most) (hm:most<=18):Calls Tryz.prog 167 #[.string (zs n),.int .i64 most] w (aC w (.tuple #[.int .i64 n,.bool true])):=by
 have h18:(zl n).length<=18:=ae;rw [← dm] at h;have h':¬ most<(zs n).size:=ae;go_enter Tryz.func167,Tryz.ntmps167;go_wp2_with (go_at_call 236;refine cto (FN n h18 _) fun w1 e1=>?_);go_region
 all_goals
  go_wp2;go_ret2;exact ⟨rfl,e1.drew⟩
def dG (a b:Int):Int:=if a<b then -1 else if a=b then 0 else 1
theorem gR {a b:Int} (h:a<b):dG a b=-1:=by unfold dG;rw [if_pos h]
theorem mu (a:Int):dG a a=0:=by unfold dG;rw [if_neg ae,if_pos rfl]
theorem gS {a b:Int} (h:b<a):dG a b=1:=by unfold dG;rw [if_neg ae,if_neg ae]
theorem CQ (a b:Int):-1<=dG a b/\dG a b<=1:=by unfold dG;split <;> (try split) <;> omega
theorem oy {m n:Nat} (h:(Lib.decDigits m).length<(Lib.decDigits n).length):m<n:=by
 have h1:=gY m;have h0:=eR m;have hn:n≠0:=by intro e;subst e;rw [fL] at h;have:([48]:List UInt8).length=1:=rfl;omega
 have h2:=ow n hn;exact Nat.lt_of_lt_of_le h1 (Nat.le_trans (Nat.pow_le_pow_right af ae) h2)
theorem tm:∀ (l m:List UInt8),(∀ b ∈ l,cX b=true)->(∀ b ∈ m,cX b=true)->l.length=m.length->Lib.compareBytes l m=dG (val l) (val m)
 | [],[],_,_,_=>(mu _).symm
 | [],_ :: _,_,_,h=>by simp at h
 | _ :: _,[],_,_,h=>by simp at h
 | a :: l,b :: m,hl,hm,h=>by
  have ih:=tm l m (fun x hx=>hl x (by simp [hx])) (fun x hx=>hm x (by simp [hx])) (by simpa using h);have h1:=tI l (fun x hx=>hl x (by simp [hx]));have h2:=tI m (fun x hx=>hm x (by simp [hx]));have e1:val (a :: l)=(a.toNat-48)*10 ^ l.length+val l:=by
   have:=cB [a] l;simpa [dw] using this
  have e2:val (b :: m)=(b.toNat-48)*10 ^ l.length+val m:=by
   have:=cB [b] m;rw [show l.length=m.length by simpa using h];simpa [dw] using this
  rw [show m.length = l.length by have : l.length = m.length := by simpa using h
                                  omega] at h2
  have da:=(cv a).1 (hl a (by simp));have db:=(cv b).1 (hm b (by simp));unfold Lib.compareBytes;rw [e1,e2];generalize 10 ^ l.length=p at *;by_cases hab:a<b
  ·rw [if_pos hab,gR];have hab':a.toNat<b.toNat:=hab;have:((a.toNat-48)+1)*p<=(b.toNat-48)*p:=Nat.mul_le_mul_right _ ae;rw [Nat.add_mul] at this;omega
  ·rw [if_neg hab];by_cases hba:b<a
   ·rw [if_pos hba,gS];have hba':b.toNat<a.toNat:=hba;have:((b.toNat-48)+1)*p<=(a.toNat-48)*p:=Nat.mul_le_mul_right _ ae;rw [Nat.add_mul] at this;omega
   ·rw [if_neg hba,ih];have hab':¬ a.toNat<b.toNat:=hab;have hba':¬ b.toNat<a.toNat:=hba;have e:a.toNat=b.toNat:=ae;rw [e];unfold dG
    congr 1
    ·apply propext;omega
    ·congr 1
     apply propext;omega
theorem Dh {m n:Nat} (h:(Lib.decDigits m).length=(Lib.decDigits n).length):Lib.compareBytes (Lib.decDigits m) (Lib.decDigits n)=dG m n:=by
 rw [tm _ _ (bC m) (bC n) h,dp,dp]
theorem a8 (n:Nat):(zs (n:Int)).size=(Lib.decDigits n).length:=by rw [dm,cY]
theorem Ej (m n:Nat) (h:(zs (m:Int)).size=(zs (n:Int)).size) (w:World):Calls Tryz.prog 166 #[.string (zs (m:Int)),.string (zs (n:Int))] w fun e w'=>e = .returned (.int .i64 (dG m n))/\w=w':=by
 refine (Tryz.strings_Compare (zs (m:Int)) (zs (n:Int)) w).mono fun e w' ⟨h1,h2⟩=>⟨?_,h2.symm⟩
 rw [a8,a8] at h;rw [bJ,bJ,cY,cY,Dh h] at h1;exact h1
theorem rv (a b:Int) (w:World) (h:a.sign≠b.sign):Calls Tryz.prog 87 #[.string (zs a),.string (zs b)] w fun e w'=>e = .returned (.int .i64 (dG a b))/\w=w':=by
 obtain ⟨x,hx⟩:∃ x,x=a.sign:=⟨_,rfl⟩
 obtain ⟨y,hy⟩:∃ y,y=b.sign:=⟨_,rfl⟩
 have hr:x<y/\dG a b=-1∨y<x/\dG a b=1:=by
  rcases Int.lt_trichotomy a 0 with ha|ha|ha <;> rcases Int.lt_trichotomy b 0 with hb|hb|hb
  all_goals
   first
    | (exfalso;apply h;simp [Int.sign_eq_neg_one_of_neg,Int.sign_eq_one_of_pos,ha,hb];done)
    | (left;refine ⟨?_,gR ae⟩;rw [hx,hy];simp [Int.sign_eq_neg_one_of_neg,Int.sign_eq_one_of_pos,ha,hb];done)
    | (right;refine ⟨?_,gS ae⟩;rw [hx,hy];simp [Int.sign_eq_neg_one_of_neg,Int.sign_eq_one_of_pos,ha,hb];done)
 have HX:=ai hx;have HY:=ai hy;clear hx hy h;rcases hr with ⟨h1,h2⟩|⟨h1,h2⟩
 all_goals
  have H2:=ai h2;clear h2;have hne:¬ x=y:=ae;go_enter Tryz.func87,Tryz.ntmps87;go_wp2_with (first
   | (go_at_call 164;((with_reducible refine (dI a _).mono ?_);rw [← HX.o];rintro e w' ⟨rfl,rfl⟩))
   | (go_at_call 164;refine (dI b _).mono ?_;rw [← HY.o];rintro e w' ⟨rfl,rfl⟩))
  go_ret;exact ⟨by rw [H2.o];rfl,rfl⟩
theorem AF {a b x:Int} (ha:x=a.sign) (hb:x=b.sign):dG a b=x*dG a.natAbs b.natAbs:=by
 rcases Int.lt_trichotomy a 0 with h|h|h
 ·have e1:a.sign=-1:=Int.sign_eq_neg_one_of_neg h;have hb':b<0:=by rw [← Int.sign_eq_neg_one_iff_neg];omega
  rw [ha,e1];unfold dG;split <;> split <;> (try split) <;> (try split) <;> omega
 ·subst h;have:b=0:=by rw [← Int.sign_eq_zero_iff_zero,← hb,ha];rfl
  subst this;simp [ha,dG]
 ·have e1:a.sign=1:=Int.sign_eq_one_of_pos h;have hb':0<b:=by rw [← Int.sign_eq_one_iff_pos];omega
  rw [ha,e1];unfold dG;split <;> split <;> (try split) <;> (try split) <;> omega
theorem ru (a b x:Int) (w:World) (ha:x=a.sign) (hb:x=b.sign) (hx:x=-1∨x=0∨x=1):Calls Tryz.prog 87 #[.string (zs a),.string (zs b)] w fun e w'=>e = .returned (.int .i64 (dG a b))/\w=w':=by
 have HA:=ai ha;have HB:=ai hb;rw [AF ha hb];clear ha hb;obtain ⟨m,hm⟩:∃ m,m=a.natAbs:=⟨_,rfl⟩
 obtain ⟨n,hn⟩:∃ n,n=b.natAbs:=⟨_,rfl⟩
 rw [← hm,← hn];have HM:=ai hm;have HN:=ai hn;have bd:=CQ m n;obtain ⟨c,hc⟩:∃ c,c=dG m n:=⟨_,rfl⟩
 rw [← hc] at bd ⊢;obtain ⟨bd1,bd2⟩:=bd;have HC:=ai hc;clear hm hn hc;rcases Nat.lt_trichotomy (zs (m:Int)).size (zs (n:Int)).size with h|h|h
 ·have hc:c=-1:=by rw [HC.o];exact gR (by have:=oy (by rw [a8,a8] at h;exact h);omega)
  have HCC:=ai hc;clear hc;have hne:¬ (zs (m:Int)).size=(zs (n:Int)).size:=ae;rcases hx with rfl|rfl|rfl
  all_goals
   go_enter Tryz.func87,Tryz.ntmps87;go_wp2_with (first
    | (go_at_call 164;((with_reducible refine (dI a _).mono ?_);rw [← HA.o];rintro e w' ⟨rfl,rfl⟩))
    | (go_at_call 164;refine (dI b _).mono ?_;rw [← HB.o];rintro e w' ⟨rfl,rfl⟩)
    | (go_at_call 165;((with_reducible refine (gC a _).mono ?_);rw [← HM.o];rintro e w' ⟨rfl,rfl⟩))
    | (go_at_call 165;refine (gC b _).mono ?_;rw [← HN.o];rintro e w' ⟨rfl,rfl⟩))
   go_ret;exact ⟨by rw [HCC.o];rfl,rfl⟩
 ·rcases hx with rfl|rfl|rfl
  all_goals
   go_enter Tryz.func87,Tryz.ntmps87;go_wp2_with (first
    | (go_at_call 164;((with_reducible refine (dI a _).mono ?_);rw [← HA.o];rintro e w' ⟨rfl,rfl⟩))
    | (go_at_call 164;refine (dI b _).mono ?_;rw [← HB.o];rintro e w' ⟨rfl,rfl⟩)
    | (go_at_call 165;((with_reducible refine (gC a _).mono ?_);rw [← HM.o];rintro e w' ⟨rfl,rfl⟩))
    | (go_at_call 165;refine (gC b _).mono ?_;rw [← HN.o];rintro e w' ⟨rfl,rfl⟩)
    | (go_at_call 166;refine (Ej m n h _).mono ?_;rw [← HC.o];rintro e w' ⟨rfl,rfl⟩))
   go_ret
   first|exact ⟨rfl,rfl⟩|exact ⟨by simp,rfl⟩
 ·have hc:c=1:=by rw [HC.o];exact gS (by have:=oy (by rw [a8,a8] at h;exact h);omega)
  have HCC:=ai hc;clear hc;have hne:¬ (zs (m:Int)).size=(zs (n:Int)).size:=ae;rcases hx with rfl|rfl|rfl
  all_goals
   go_enter Tryz.func87,Tryz.ntmps87;go_wp2_with (first
    | (go_at_call 164;((with_reducible refine (dI a _).mono ?_);rw [← HA.o];rintro e w' ⟨rfl,rfl⟩))
    | (go_at_call 164;refine (dI b _).mono ?_;rw [← HB.o];rintro e w' ⟨rfl,rfl⟩)
    | (go_at_call 165;((with_reducible refine (gC a _).mono ?_);rw [← HM.o];rintro e w' ⟨rfl,rfl⟩))
    | (go_at_call 165;refine (gC b _).mono ?_;rw [← HN.o];rintro e w' ⟨rfl,rfl⟩))
   go_ret;exact ⟨by rw [HCC.o];rfl,rfl⟩
theorem lq (a b:Int) (w:World):Calls Tryz.prog 87 #[.string (zs a),.string (zs b)] w fun e w'=>e = .returned (.int .i64 (dG a b))/\w=w':=by
 by_cases h:a.sign=b.sign
 ·refine ru a b a.sign w rfl h ?_;rcases Int.lt_trichotomy a 0 with ha|ha|ha
  ·exact Or.inl (Int.sign_eq_neg_one_of_neg ha)
  ·subst ha;exact Or.inr (Or.inl rfl)
  ·exact Or.inr (Or.inr (Int.sign_eq_one_of_pos ha))
 ·exact rv a b w h
def Dg (s:ByteArray):Prop:=∀ k (h:k<s.size),48<=(s[k].toNat:Int)/\(s[k].toNat:Int)<=57
theorem bh (s:ByteArray) (k:Nat) (h:k<s.size):s[k]=s.data.toList[k]'(by rw [Array.length_toList];exact h):=by
 rw [Array.getElem_toList];rfl
theorem ve (s:ByteArray):Dg s ↔ ∀ b ∈ s.data.toList,cX b=true:=by
 constructor
 ·intro h b hb;obtain ⟨k,hk,rfl⟩:=List.mem_iff_getElem.1 hb;have hk':k<s.size:=by rw [Array.length_toList] at hk;exact hk
  have:=h k hk';rw [bh s k hk'] at this;rw [cv];omega
 ·intro h k hk;have:=h s[k] (by rw [bh s k hk];exact List.getElem_mem _);rw [cv] at this;omega
theorem toList_empty {s:ByteArray} (h:1<=s.size):¬ s.toList=[]:=by
 rw [toList_data];intro e;have:=congrArg List.length e;rw [Array.length_toList,List.length_nil] at this;have e2:s.data.size=s.size:=rfl;omega
set_option maxHeartbeats 1000000 in
theorem qW (a:ByteArray) (w:World) (s:ByteArray) (mi:Bool) (hs:s.toList=[])
    (hcut:∀ w,Calls Tryz.prog 190 #[.string a,.string ⟨#[45]⟩] w fun e w'=>e = .returned (.tuple #[.string s,.bool mi])/\w=w') :
    Calls Tryz.prog 181 #[.string a] w fun e w'=>e = .returned (.int .i64 2)/\w=w':=by
 go_enter Tryz.func181,Tryz.ntmps181;go_wp2_with (go_at_call 190;refine (hcut _).mono ?_;rintro e w' ⟨rfl,rfl⟩);go_ret;exact ⟨rfl,rfl⟩
set_option maxHeartbeats 1000000 in
theorem sK (a:ByteArray) (w:World) (s:ByteArray) (mi:Bool) (hs:(200:Int)<s.size)
    (hcut:∀ w,Calls Tryz.prog 190 #[.string a,.string ⟨#[45]⟩] w fun e w'=>e = .returned (.tuple #[.string s,.bool mi])/\w=w') :
    Calls Tryz.prog 181 #[.string a] w fun e w'=>e = .returned (.int .i64 2)/\w=w':=by
 have h0:¬ s.toList=[]:=toList_empty ae;have h0':s.toList.isEmpty=false:=by simpa using h0
 go_enter Tryz.func181,Tryz.ntmps181;go_wp2_with (go_at_call 190;refine (hcut _).mono ?_;rintro e w' ⟨rfl,rfl⟩);go_ret;exact ⟨rfl,rfl⟩
set_option maxHeartbeats 1000000 in
theorem sI (a:ByteArray) (w:World) (s:ByteArray) (mi:Bool) (h1:0<s.size) (h2:(s.size:Int)<=200) (h3:(s[0].toNat:Int)=48) (h4:(1:Int)<s.size∨((s.size:Int)<=1/\mi=true))
    (hcut:∀ w,Calls Tryz.prog 190 #[.string a,.string ⟨#[45]⟩] w fun e w'=>e = .returned (.tuple #[.string s,.bool mi])/\w=w') :
    Calls Tryz.prog 181 #[.string a] w fun e w'=>e = .returned (.int .i64 2)/\w=w':=by
 have h0:¬ s.toList=[]:=toList_empty ae;have h0':s.toList.isEmpty=false:=by simpa using h0
 rcases h4 with h4|⟨h4,rfl⟩
 all_goals
  go_enter Tryz.func181,Tryz.ntmps181;go_wp2_with (go_at_call 190;refine (hcut _).mono ?_;rintro e w' ⟨rfl,rfl⟩);go_ret;exact ⟨rfl,rfl⟩
theorem sJ (a:ByteArray) (w:World) (s:ByteArray) (mi:Bool) (v:Int) (h1:0<s.size) (h2:(s.size:Int)<=200) (h3:¬ (s[0].toNat:Int)=48∨((s[0].toNat:Int)=48/\(s.size:Int)<=1/\mi=false))
    (hv:Hid ((Dg s->v=0)/\(¬ Dg s->v=2)))
    (hcut:∀ w,Calls Tryz.prog 190 #[.string a,.string ⟨#[45]⟩] w fun e w'=>e = .returned (.tuple #[.string s,.bool mi])/\w=w') :
    Calls Tryz.prog 181 #[.string a] w fun e w'=>e = .returned (.int .i64 v)/\w=w':=by
 have h0:¬ s.toList=[]:=toList_empty ae;have h0':s.toList.isEmpty=false:=by simpa using h0
 rcases h3 with h3|⟨h3,h4,rfl⟩
 all_goals
  go_enter Tryz.func181,Tryz.ntmps181;go_wp2_with (go_at_call 190;refine (hcut _).mono ?_;rintro e w' ⟨rfl,rfl⟩);go_loop [33] (fun i=>∃ k:Nat,k<=s.size/\i = .int .i64 k/\Hid (∀ j (h:j<s.size),j<k->48<=(s[j].toNat:Int)/\(s[j].toNat:Int)<=57)) (fun i=>s.size-(intOf i).toNat)
  case atStart=>exact ⟨0,Nat.zero_le _,rfl,ai (fun j h h'=>ae)⟩
  case round =>
   obtain ⟨k,hk,rfl,hdg⟩:=hrel;by_cases hlt:k<s.size
   ·rcases Int.lt_or_le (s[k].toNat:Int) 48 with hd|hd
    ·have e2:v=2:=hv.out.2 (fun h=>by have:=(h k hlt).1;omega);have E2:=ai e2;clear e2;go_wp2;go_ret;exact ⟨by rw [E2.out];rfl,rfl⟩
    ·rcases Int.lt_or_le 57 (s[k].toNat:Int) with hd2|hd2
     ·have e2:v=2:=hv.out.2 (fun h=>by have:=(h k hlt).2;omega);have E2:=ai e2;clear e2;go_wp2;go_ret;exact ⟨by rw [E2.out];rfl,rfl⟩
     ·have HD:=ai (And.intro hd hd2);go_wp2;go_round
      case rel=>exact ⟨k+1,ae,by go_num,ai (fun j h h'=>by
       by_cases e:j=k
       ·subst e;exact HD.o
       ·exact hdg.out j h ae)⟩
      case measure=>simp [intOf];omega
   ·have e0:v=0:=hv.out.1 (fun j h=>hdg.out j h ae);have E0:=ai e0;clear e0;go_wp2;go_ret;exact ⟨by rw [E0.out];rfl,rfl⟩
def bI (l:List UInt8):Prop:=∃ n:Int,l=zl n/\(Lib.decDigits n.natAbs).length<=200
theorem FG (a:ByteArray) (w:World):Calls Tryz.prog 190 #[.string a,.string ⟨#[45]⟩] w fun e w' =>
 e = .returned (.tuple #[.string ⟨(Lib.trimPrefix a.data.toList [45]).toArray⟩,.bool (Lib.hasPrefix a.data.toList [45])])/\w=w' :=
 (Tryz.strings_CutPrefix a ⟨#[45]⟩ w).mono fun _ _ ⟨h1,h2⟩=>⟨h1,h2.symm⟩
theorem gD (l:List UInt8):(∃ t,l=45 :: t/\Lib.trimPrefix l [45]=t/\Lib.hasPrefix l [45]=true)∨((∀ t,l≠45 :: t)/\Lib.trimPrefix l [45]=l/\Lib.hasPrefix l [45]=false):=by
 cases l with
 | nil=>exact Or.inr ⟨by simp,by simp [Lib.trimPrefix,Lib.hasPrefix],by simp [Lib.hasPrefix]⟩
 | cons b t =>
  by_cases h:b=45
  ·subst h;exact Or.inl ⟨t,rfl,by simp [Lib.trimPrefix,Lib.hasPrefix],by simp [Lib.hasPrefix]⟩
  ·exact Or.inr ⟨by simp [h],by simp [Lib.trimPrefix,Lib.hasPrefix,List.isPrefixOf,Ne.symm h],by simp [Lib.hasPrefix,List.isPrefixOf,Ne.symm h]⟩
theorem j7 {n:Int}:bI (zl n) ↔ (Lib.decDigits n.natAbs).length<=200 :=
 ⟨fun ⟨m,h,h2⟩=>by rw [gB h];exact h2,fun h=>⟨n,rfl,h⟩⟩
theorem pj (l t:List UInt8) (mi:Bool) (ht:Lib.trimPrefix l [45]=t) (hm:Lib.hasPrefix l [45]=mi) :
    bI l ↔ t≠[]/\t.length<=200/\(t.head?≠some 48∨(t.length=1/\mi=false))/\∀ b ∈ t,cX b=true:=by
 rcases gD l with ⟨t',rfl,h1,h2⟩|⟨h0,h1,h2⟩
 ·obtain rfl:t'=t:=by rw [← h1,ht]
  obtain rfl:mi=true:=by rw [← hm,h2]
  constructor
  ·rintro ⟨n,hn,hl⟩;have hneg:n<0:=by rw [← fO,← hn];rfl
   rw [bW hneg] at hn;have e:=(List.cons.inj hn).2;obtain ⟨b,r,e2,hb⟩:=gy n.natAbs ae;refine ⟨by rw [e];exact fM _,by rw [e];exact hl,Or.inl (by rw [e,e2];simpa using hb),by rw [e];exact bC _⟩
  ·rintro ⟨g1,g2,g3,g4⟩;have g3':t'.head?≠some 48:=by
    rcases g3 with g|⟨_,g⟩
    ·exact g
    ·cases g
   have e:=dV t' g1 g4 (Or.inl g3');have hp:val t'≠0:=by intro hv;rw [hv,fL] at e;rw [← e] at g3';simp at g3'
   refine ⟨-(val t':Int),?_,?_⟩
   ·rw [bW ae,Int.natAbs_neg,Int.natAbs_natCast,e]
   ·rw [Int.natAbs_neg,Int.natAbs_natCast,e];exact g2
 ·obtain rfl:l=t:=by rw [← h1,ht]
  obtain rfl:mi=false:=by rw [← hm,h2]
  constructor
  ·rintro ⟨n,hn,hl⟩;have hneg:0<=n:=by
    rcases Int.lt_or_le n 0 with h|h
    ·rw [bW h] at hn;exact absurd hn (h0 _)
    ·exact h
   rw [b6 hneg] at hn;refine ⟨by rw [hn];exact fM _,by rw [hn];exact hl,?_,by rw [hn];exact bC _⟩;by_cases hz:n.natAbs=0
   ·right;rw [hn,hz,fL];exact ⟨rfl,rfl⟩
   ·left;obtain ⟨b,r,e2,hb⟩:=gy n.natAbs hz;rw [hn,e2];simpa using hb
  ·rintro ⟨g1,g2,g3,g4⟩;have e:=dV l g1 g4 (by
    rcases g3 with g|⟨g,_⟩
    ·exact Or.inl g
    ·obtain ⟨b,rfl⟩:=List.length_eq_one_iff.1 g;by_cases hb:b=48
     ·right;rw [hb]
     ·left;simp [hb])
   exact ⟨(val l:Int),by rw [cY,e],by rw [Int.natAbs_natCast,e];exact g2⟩
theorem de (a:ByteArray) (w:World) (v:Int) (hv:(bI a.data.toList->v=0)/\(¬ bI a.data.toList->v=2)) :
    Calls Tryz.prog 181 #[.string a] w fun e w'=>e = .returned (.int .i64 v)/\w=w':=by
 obtain ⟨t,ht⟩:∃ t,Lib.trimPrefix a.data.toList [45]=t:=⟨_,rfl⟩
 obtain ⟨mi,hm⟩:∃ mi,Lib.hasPrefix a.data.toList [45]=mi:=⟨_,rfl⟩
 have hcut:=FG a;rw [ht,hm] at hcut;have hiff:=pj a.data.toList t mi ht hm;obtain ⟨s,hs⟩:∃ s:ByteArray,s=⟨t.toArray⟩:=⟨_,rfl⟩
 rw [← hs] at hcut;have hst:s.data.toList=t:=by rw [hs]
 have hsz:s.size=t.length:=by rw [← hst,Array.length_toList];rfl
 have hh:∀ h:0<s.size,t.head?=some s[0]:=fun h=>by
  rw [bh s 0 h,List.head?_eq_getElem?,← hst];exact List.getElem?_eq_getElem _
 clear hs;by_cases h0:t=[]
 ·rw [hv.2 (fun h=>(hiff.1 h).1 h0)];exact qW a w s mi (by rw [toList_data,hst,h0]) hcut
 ·have h1:0<s.size:=by rw [hsz];exact List.length_pos_iff.2 h0
  by_cases h2:t.length<=200
  ·have e0:t.head?=some 48 ↔ (s[0].toNat:Int)=48:=by
    rw [hh h1];simp only [Option.some.injEq];constructor
    ·intro e;rw [e];rfl
    ·intro e;apply UInt8.toNat_inj.1;show s[0].toNat=48;omega
   by_cases h3:t.head?≠some 48∨(t.length=1/\mi=false)
   ·refine sJ a w s mi v h1 ae ?_ (ai ⟨fun hd=>hv.1 (hiff.2 ⟨h0,h2,h3,by rw [← hst];exact (ve s).1 hd⟩),fun hd=>hv.2 (fun hr=>hd ((ve s).2 (by rw [hst];exact (hiff.1 hr).2.2.2)))⟩) hcut;by_cases h4:(s[0].toNat:Int)=48
    ·right;rcases h3 with h3|⟨h3,h5⟩
     ·exact absurd (e0.2 h4) h3
     ·exact ⟨h4,ae,h5⟩
    ·exact Or.inl h4
   ·rw [hv.2 (fun h=>h3 (hiff.1 h).2.2.1)];refine sI a w s mi h1 ae (e0.1 (by
     by_cases h:t.head?=some 48
     ·exact h
     ·exact absurd (Or.inl h) h3)) ?_ hcut
    by_cases h5:t.length=1
    ·right;refine ⟨ae,?_⟩;cases mi
     ·exact absurd (Or.inr ⟨h5,rfl⟩) h3
     ·rfl
    ·left;omega
  ·rw [hv.2 (fun h=>h2 (hiff.1 h).2.1)];exact sK a w s mi ae hcut
end Go.Proofs.YtmahadmefplbnaaGreatDoor
