/- Part 13. -/
import Derived.Test.YtmahadmefplbnaaGreatDoorQTDB
import Derived.Test.YtmahadmefplbnaaGreatDoorQTD10
import Derived.Test.YtmahadmefplbnaaGreatDoorQTD12
set_option maxRecDepth 100000
set_option maxHeartbeats 2000000
open Go.Proofs.Tryz
namespace Go.Proofs.YtmahadmefplbnaaGreatDoor
open Go Go.RowKit
theorem toList_data(s:ByteArray):s.toList=s.data.toList:=by
 first|exact ByteArray.toList_eq s|simp
theorem dI(n:Int):(zs n).toList=zl n:=by rw[toList_data,bH]
theorem fC(q:Rat):(qs q).toList=ql q:=by rw[toList_data,dN]
theorem oU{n:Int}:zl n=[48] ↔ n=0:=⟨fun h=>jf (by rw[h,wV]),fun h=>by rw[h,wV]⟩
theorem oT{n:Int}:zl n=[49] ↔ n=1:=⟨fun h=>jf (by rw[h,wU]),fun h=>by rw[h,wU]⟩
theorem rV{n:Int}(h:n=0):((zs n).toList == [48])=true:=by rw[dI,oU.2 h];rfl
theorem iK{n:Int}(h:n≠0):((zs n).toList == [48])=false:=by rw[dI];simpa using fun e=>h (oU.1 e)
theorem oS{n:Int}(h:n=1):((zs n).toList == [49])=true:=by rw[dI,oT.2 h];rfl
theorem kS{n:Int}(h:n≠1):((zs n).toList == [49])=false:=by rw[dI];simpa using fun e=>h (oT.1 e)
theorem yY(n:Int)(w:World):Calls prog 233 #[.string (zs n),.string ⟨#[45]⟩] w fun e w'=>e = .returned (.bool (decide (n<0)))/\w=w':=by
 refine(strings_HasPrefix (zs n) ⟨#[45]⟩ w).mono fun e w' ⟨h1,h2⟩=>⟨?_,h2.symm⟩
 rw[bH,show(⟨#[45]⟩:ByteArray).data.toList=[45] from rfl,sS] at h1;exact h1
theorem iN(n:Int)(w:World):Calls prog 165 #[.string (zs n),.string ⟨#[45]⟩] w fun e w'=>e = .returned (.string (zs n.natAbs))/\w=w':=by
 refine(strings_TrimPrefix (zs n) ⟨#[45]⟩ w).mono fun e w' ⟨h1,h2⟩=>⟨?_,h2.symm⟩
 rw[bH,show(⟨#[45]⟩:ByteArray).data.toList=[45] from rfl,oX] at h1;rw[h1];unfold zs;rw[dr]
theorem eu(n:Int)(w:World):Calls prog 164 #[.string (zs n)] w fun e w'=>e = .returned (.int .i64 n.sign)/\w=w':=by
 by_cases h0:n=0
 ·have h1:=rV h0;have h2:n.sign=0:=by rw[h0];rfl
  have H2:=aj h2;clear h0 h2;go_enter func164,ntmps164;go_wp2_with fail;go_ret;exact⟨by rw[H2.o];rfl,rfl⟩
 ·have h1:=iK h0;by_cases hn:n<0
  ·have h2:n.sign=-1:=Int.sign_eq_neg_one_of_neg hn;have H2:=aj h2;clear h0 h2;go_enter func164,ntmps164;go_wp2_with (go_at_call 233;refine(yY n _).mono ?_;rintro e w' ⟨rfl,rfl⟩);go_ret;exact⟨by rw[H2.o];rfl,rfl⟩
  ·have h2:n.sign=1:=Int.sign_eq_one_of_pos ae;have H2:=aj h2;clear h0 h2;go_enter func164,ntmps164;go_wp2_with (go_at_call 233;refine(yY n _).mono ?_;rintro e w' ⟨rfl,rfl⟩);go_ret;exact⟨by rw[H2.o];rfl,rfl⟩
theorem lG{n:Int}(h:0<n):(⟨#[45]⟩:ByteArray) ++ zs n=zs (-n):=by
 apply bO;rw[bH,bZ ae,Int.natAbs_neg];show(⟨#[45]⟩ ++ zs n:ByteArray).data.toList=_;rw[ByteArray.data_append,Array.toList_append,bH,bI ae];rfl
theorem zQ{n:Int}(h:n<0):(zs n).extract 1 (zs n).size=zs (-n):=by
 apply bO;rw[ByteArray.data_extract,Array.toList_extract,bH,bH,dB,bZ h,bI (show 0<=-n by omega),Int.natAbs_neg];simp
theorem BG(n:Int):0<(zs n).size:=by
 rw[dB];exact List.length_pos_iff.2 (qh n)
theorem Bp(n:Int)(w:World)(hl:(zl n).length<=100000):Calls prog 248 #[.string (zs n)] w fun e w'=>e = .returned (.string (zs (-n)))/\w=w':=by
 have hp:=BG n;have hp1:1<=(zs n).size:=hp;rw[← dB] at hl;rcases Int.lt_trichotomy n 0 with h|h|h
 ·have h2:n.sign=-1:=Int.sign_eq_neg_one_of_neg h;have H:=aj h;have H2:=aj (zQ h);clear h;go_enter func248,ntmps248;go_wp2_with (go_at_call 164;refine(eu n _).mono ?_;rw[h2];rintro e w' ⟨rfl,rfl⟩);go_ret;exact⟨by rw[← H2.o];rfl,rfl⟩
 ·subst h;go_enter func248,ntmps248;go_wp2_with (go_at_call 164;refine(eu 0 _).mono ?_;rintro e w' ⟨rfl,rfl⟩);go_ret;exact⟨rfl,rfl⟩
 ·have h2:n.sign=1:=Int.sign_eq_one_of_pos h;have H:=aj h;have H2:=aj (lG h);clear h;go_enter func248,ntmps248;go_wp2_with (go_at_call 164;refine(eu n _).mono ?_;rw[h2];rintro e w' ⟨rfl,rfl⟩);go_ret;exact⟨by rw[← H2.o];rfl,rfl⟩
theorem yj(n:Int)(h0:-9223372036854775808<=n)(h1:n<=9223372036854775807)(w:World)(g:Gd w):Calls prog 168 #[.int .i64 n] w (aR w (.string (zs n))):=by
 have H:=aj (And.intro h0 h1);clear h0 h1;go_enter func168,ntmps168;go_wp2_with (go_at_call 193;refine(fS n H.o.1 H.o.2 _ g).mono ?_;rintro e w' ⟨rfl,e1⟩);go_ret;exact⟨rfl,e1⟩
theorem dy(n most:Int)(w:World)(h:most<(zl n).length):Calls prog 167 #[.string (zs n),.int .i64 most] w (aR w (.tuple #[.int .i64 0,.bool false])):=by
 rw[← dB] at h;go_enter func167,ntmps167;go_wp2_with fail;go_ret2;exact⟨rfl,Ext.refl _⟩
theorem cx(n most:Int)(w:World)(h:(zl n).length<=most)(hm:most<=18):Calls prog 167 #[.string (zs n),.int .i64 most] w (aR w (.tuple #[.int .i64 n,.bool true])):=by
 have h18:(zl n).length<=18:=ae;rw[← dB] at h;have h':¬ most<(zs n).size:=ae;go_enter func167,ntmps167;go_wp2_with (go_at_call 236;refine cto (C7 n h18 _) fun w1 e1=>?_);go_region
 all_goals
  go_wp2;go_ret2;exact⟨rfl,e1.drew⟩
def dZ(a b:Int):Int:=if a<b then -1 else if a=b then 0 else 1
theorem jW{a b:Int}(h:a<b):dZ a b=-1:=by unfold dZ;rw[if_pos h]
theorem uo(a:Int):dZ a a=0:=by unfold dZ;rw[if_neg ae,if_pos rfl]
theorem jX{a b:Int}(h:b<a):dZ a b=1:=by unfold dZ;rw[if_neg ae,if_neg ae]
theorem A0(a b:Int):-1<=dZ a b/\dZ a b<=1:=by unfold dZ;split <;> (try split) <;> omega
theorem ni{m n:Nat}(h:(Lib.decDigits m).length<(Lib.decDigits n).length):m<n:=by
 have h1:=nh m;have h0:=gi m;have hn:n≠0:=by intro e;subst e;rw[gE] at h;have:([48]:List UInt8).length=1:=rfl;omega
 have h2:=ng n hn;exact Nat.lt_of_lt_of_le h1 (Nat.le_trans (Nat.pow_le_pow_right af ae) h2)
theorem rH:∀ (l m:List UInt8),(∀ b ∈ l,cC b=true)->(∀ b ∈ m,cC b=true)->l.length=m.length->Lib.compareBytes l m=dZ (val l) (val m)
 | [],[],_,_,_=>(uo _).symm
 | [],_ :: _,_,_,h=>by simp at h
 | _ :: _,[],_,_,h=>by simp at h
 | a :: l,b :: m,hl,hm,h=>by
  have ih:=rH l m (fun x hx=>hl x (by simp[hx])) (fun x hx=>hm x (by simp[hx])) (by simpa using h);have h1:=oW l (fun x hx=>hl x (by simp[hx]));have h2:=oW m (fun x hx=>hm x (by simp[hx]));have e1:val (a :: l)=(a.toNat-48)*10 ^ l.length+val l:=by
   have:=bS [a] l;simpa[cD] using this
  have e2:val (b :: m)=(b.toNat-48)*10 ^ l.length+val m:=by
   have:=bS [b] m;rw[show l.length=m.length by simpa using h];simpa[cD] using this
  rw [show m.length = l.length by have : l.length = m.length := by simpa using h
                                  omega] at h2
  have da:=(b8 a).1 (hl a (by simp));have db:=(b8 b).1 (hm b (by simp));unfold Lib.compareBytes;rw[e1,e2];generalize 10 ^ l.length=p at *;by_cases hab:a<b
  ·rw[if_pos hab,jW];have hab':a.toNat<b.toNat:=hab;have:((a.toNat-48)+1)*p<=(b.toNat-48)*p:=Nat.mul_le_mul_right _ ae;rw[Nat.add_mul] at this;omega
  ·rw[if_neg hab];by_cases hba:b<a
   ·rw[if_pos hba,jX];have hba':b.toNat<a.toNat:=hba;have:((b.toNat-48)+1)*p<=(a.toNat-48)*p:=Nat.mul_le_mul_right _ ae;rw[Nat.add_mul] at this;omega
   ·rw[if_neg hba,ih];have hab':¬ a.toNat<b.toNat:=hab;have hba':¬ b.toNat<a.toNat:=hba;have e:a.toNat=b.toNat:=ae;rw[e];unfold dZ
    congr 1
    ·apply propext;omega
    ·congr 1
     apply propext;omega
theorem A6{m n:Nat}(h:(Lib.decDigits m).length=(Lib.decDigits n).length):Lib.compareBytes (Lib.decDigits m) (Lib.decDigits n)=dZ m n:=by
 rw[rH _ _ (a7 m) (a7 n) h,cG,cG]
theorem bj(n:Nat):(zs (n:Int)).size=(Lib.decDigits n).length:=by rw[dB,dr]
theorem BY(m n:Nat)(h:(zs (m:Int)).size=(zs (n:Int)).size)(w:World):Calls prog 166 #[.string (zs (m:Int)),.string (zs (n:Int))] w fun e w'=>e = .returned (.int .i64 (dZ m n))/\w=w':=by
 refine(strings_Compare (zs (m:Int)) (zs (n:Int)) w).mono fun e w' ⟨h1,h2⟩=>⟨?_,h2.symm⟩
 rw[bj,bj] at h;rw[bH,bH,dr,dr,A6 h] at h1;exact h1
theorem pW(a b:Int)(w:World)(h:a.sign≠b.sign):Calls prog 87 #[.string (zs a),.string (zs b)] w fun e w'=>e = .returned (.int .i64 (dZ a b))/\w=w':=by
 obtain⟨x,hx⟩:∃ x,x=a.sign:=⟨_,rfl⟩
 obtain⟨y,hy⟩:∃ y,y=b.sign:=⟨_,rfl⟩
 have hr:x<y/\dZ a b=-1∨y<x/\dZ a b=1:=by
  rcases Int.lt_trichotomy a 0 with ha|ha|ha <;> rcases Int.lt_trichotomy b 0 with hb|hb|hb
  all_goals
   first
    | (exfalso;apply h;simp[Int.sign_eq_neg_one_of_neg,Int.sign_eq_one_of_pos,ha,hb];done)
    | (left;refine⟨?_,jW ae⟩;rw[hx,hy];simp[Int.sign_eq_neg_one_of_neg,Int.sign_eq_one_of_pos,ha,hb];done)
    | (right;refine⟨?_,jX ae⟩;rw[hx,hy];simp[Int.sign_eq_neg_one_of_neg,Int.sign_eq_one_of_pos,ha,hb];done)
 have HX:=aj hx;have HY:=aj hy;clear hx hy h;rcases hr with⟨h1,h2⟩|⟨h1,h2⟩
 all_goals
  have H2:=aj h2;clear h2;have hne:¬ x=y:=ae;go_enter func87,ntmps87;go_wp2_with (first
   | (go_at_call 164;((with_reducible refine(eu a _).mono ?_);rw[← HX.o];rintro e w' ⟨rfl,rfl⟩))
   | (go_at_call 164;refine(eu b _).mono ?_;rw[← HY.o];rintro e w' ⟨rfl,rfl⟩))
  go_ret;exact⟨by rw[H2.o];rfl,rfl⟩
theorem yX{a b x:Int}(ha:x=a.sign)(hb:x=b.sign):dZ a b=x*dZ a.natAbs b.natAbs:=by
 rcases Int.lt_trichotomy a 0 with h|h|h
 ·have e1:a.sign=-1:=Int.sign_eq_neg_one_of_neg h;have hb':b<0:=by rw[← Int.sign_eq_neg_one_iff_neg];omega
  rw[ha,e1];unfold dZ;split <;> split <;> (try split) <;> (try split) <;> omega
 ·subst h;have:b=0:=by rw[← Int.sign_eq_zero_iff_zero,← hb,ha];rfl
  subst this;simp[ha,dZ]
 ·have e1:a.sign=1:=Int.sign_eq_one_of_pos h;have hb':0<b:=by rw[← Int.sign_eq_one_iff_pos];omega
  rw[ha,e1];unfold dZ;split <;> split <;> (try split) <;> (try split) <;> omega
theorem pV(a b x:Int)(w:World)(ha:x=a.sign)(hb:x=b.sign)(hx:x=-1∨x=0∨x=1):Calls prog 87 #[.string (zs a),.string (zs b)] w fun e w'=>e = .returned (.int .i64 (dZ a b))/\w=w':=by
 have HA:=aj ha;have HB:=aj hb;rw[yX ha hb];clear ha hb;obtain⟨m,hm⟩:∃ m,m=a.natAbs:=⟨_,rfl⟩
 obtain⟨n,hn⟩:∃ n,n=b.natAbs:=⟨_,rfl⟩
 rw[← hm,← hn];have HM:=aj hm;have HN:=aj hn;have bd:=A0 m n;obtain⟨c,hc⟩:∃ c,c=dZ m n:=⟨_,rfl⟩
 rw[← hc] at bd ⊢;obtain⟨bd1,bd2⟩:=bd;have HC:=aj hc;clear hm hn hc;rcases Nat.lt_trichotomy (zs (m:Int)).size (zs (n:Int)).size with h|h|h
 ·have hc:c=-1:=by rw[HC.o];exact jW (by have:=ni (by rw[bj,bj] at h;exact h);omega)
  have HCC:=aj hc;clear hc;have hne:¬ (zs (m:Int)).size=(zs (n:Int)).size:=ae;rcases hx with rfl|rfl|rfl
  all_goals
   go_enter func87,ntmps87;go_wp2_with (first
    | (go_at_call 164;((with_reducible refine(eu a _).mono ?_);rw[← HA.o];rintro e w' ⟨rfl,rfl⟩))
    | (go_at_call 164;refine(eu b _).mono ?_;rw[← HB.o];rintro e w' ⟨rfl,rfl⟩)
    | (go_at_call 165;((with_reducible refine(iN a _).mono ?_);rw[← HM.o];rintro e w' ⟨rfl,rfl⟩))
    | (go_at_call 165;refine(iN b _).mono ?_;rw[← HN.o];rintro e w' ⟨rfl,rfl⟩))
   go_ret;exact⟨by rw[HCC.o];rfl,rfl⟩
 ·rcases hx with rfl|rfl|rfl
  all_goals
   go_enter func87,ntmps87;go_wp2_with (first
    | (go_at_call 164;((with_reducible refine(eu a _).mono ?_);rw[← HA.o];rintro e w' ⟨rfl,rfl⟩))
    | (go_at_call 164;refine(eu b _).mono ?_;rw[← HB.o];rintro e w' ⟨rfl,rfl⟩)
    | (go_at_call 165;((with_reducible refine(iN a _).mono ?_);rw[← HM.o];rintro e w' ⟨rfl,rfl⟩))
    | (go_at_call 165;refine(iN b _).mono ?_;rw[← HN.o];rintro e w' ⟨rfl,rfl⟩)
    | (go_at_call 166;refine(BY m n h _).mono ?_;rw[← HC.o];rintro e w' ⟨rfl,rfl⟩))
   go_ret
   first|exact⟨rfl,rfl⟩|exact⟨by simp,rfl⟩
 ·have hc:c=1:=by rw[HC.o];exact jX (by have:=ni (by rw[bj,bj] at h;exact h);omega)
  have HCC:=aj hc;clear hc;have hne:¬ (zs (m:Int)).size=(zs (n:Int)).size:=ae;rcases hx with rfl|rfl|rfl
  all_goals
   go_enter func87,ntmps87;go_wp2_with (first
    | (go_at_call 164;((with_reducible refine(eu a _).mono ?_);rw[← HA.o];rintro e w' ⟨rfl,rfl⟩))
    | (go_at_call 164;refine(eu b _).mono ?_;rw[← HB.o];rintro e w' ⟨rfl,rfl⟩)
    | (go_at_call 165;((with_reducible refine(iN a _).mono ?_);rw[← HM.o];rintro e w' ⟨rfl,rfl⟩))
    | (go_at_call 165;refine(iN b _).mono ?_;rw[← HN.o];rintro e w' ⟨rfl,rfl⟩))
   go_ret;exact⟨by rw[HCC.o];rfl,rfl⟩
theorem ky(a b:Int)(w:World):Calls prog 87 #[.string (zs a),.string (zs b)] w fun e w'=>e = .returned (.int .i64 (dZ a b))/\w=w':=by
 by_cases h:a.sign=b.sign
 ·refine pV a b a.sign w rfl h ?_;rcases Int.lt_trichotomy a 0 with ha|ha|ha
  ·exact Or.inl (Int.sign_eq_neg_one_of_neg ha)
  ·subst ha;exact Or.inr (Or.inl rfl)
  ·exact Or.inr (Or.inr (Int.sign_eq_one_of_pos ha))
 ·exact pW a b w h
def Dg(s:ByteArray):Prop:=∀ k (h:k<s.size),48<=(s[k].toNat:Int)/\(s[k].toNat:Int)<=57
theorem aU(s:ByteArray)(k:Nat)(h:k<s.size):s[k]=s.data.toList[k]'(by rw[Array.length_toList];exact h):=by
 rw[Array.getElem_toList];rfl
theorem tc(s:ByteArray):Dg s ↔ ∀ b ∈ s.data.toList,cC b=true:=by
 constructor
 ·intro h b hb;obtain⟨k,hk,rfl⟩:=List.mem_iff_getElem.1 hb;have hk':k<s.size:=by rw[Array.length_toList] at hk;exact hk
  have:=h k hk';rw[aU s k hk'] at this;rw[b8];omega
 ·intro h k hk;have:=h s[k] (by rw[aU s k hk];exact List.getElem_mem _);rw[b8] at this;omega
theorem toList_empty{s:ByteArray}(h:1<=s.size):¬ s.toList=[]:=by
 rw[toList_data];intro e;have:=congrArg List.length e;rw[Array.length_toList,List.length_nil] at this;have e2:s.data.size=s.size:=rfl;omega
set_option maxHeartbeats 1000000 in
theorem pN (a:ByteArray) (w:World) (s:ByteArray) (mi:Bool) (hs:s.toList=[])
    (hcut:∀ w,Calls prog 190 #[.string a,.string ⟨#[45]⟩] w fun e w'=>e = .returned (.tuple #[.string s,.bool mi])/\w=w') :
    Calls prog 181 #[.string a] w fun e w'=>e = .returned (.int .i64 2)/\w=w':=by
 go_enter func181,ntmps181;go_wp2_with (go_at_call 190;refine(hcut _).mono ?_;rintro e w' ⟨rfl,rfl⟩);go_ret;exact⟨rfl,rfl⟩
set_option maxHeartbeats 1000000 in
theorem q8 (a:ByteArray) (w:World) (s:ByteArray) (mi:Bool) (hs:(200:Int)<s.size)
    (hcut:∀ w,Calls prog 190 #[.string a,.string ⟨#[45]⟩] w fun e w'=>e = .returned (.tuple #[.string s,.bool mi])/\w=w') :
    Calls prog 181 #[.string a] w fun e w'=>e = .returned (.int .i64 2)/\w=w':=by
 have h0:¬ s.toList=[]:=toList_empty ae;have h0':s.toList.isEmpty=false:=by simpa using h0
 go_enter func181,ntmps181;go_wp2_with (go_at_call 190;refine(hcut _).mono ?_;rintro e w' ⟨rfl,rfl⟩);go_ret;exact⟨rfl,rfl⟩
set_option maxHeartbeats 1000000 in
theorem q6 (a:ByteArray) (w:World) (s:ByteArray) (mi:Bool) (h1:0<s.size) (h2:(s.size:Int)<=200) (h3:(s[0].toNat:Int)=48) (h4:(1:Int)<s.size∨((s.size:Int)<=1/\mi=true))
    (hcut:∀ w,Calls prog 190 #[.string a,.string ⟨#[45]⟩] w fun e w'=>e = .returned (.tuple #[.string s,.bool mi])/\w=w') :
    Calls prog 181 #[.string a] w fun e w'=>e = .returned (.int .i64 2)/\w=w':=by
 have h0:¬ s.toList=[]:=toList_empty ae;have h0':s.toList.isEmpty=false:=by simpa using h0
 rcases h4 with h4|⟨h4,rfl⟩
 all_goals
  go_enter func181,ntmps181;go_wp2_with (go_at_call 190;refine(hcut _).mono ?_;rintro e w' ⟨rfl,rfl⟩);go_ret;exact⟨rfl,rfl⟩
theorem q7 (a:ByteArray) (w:World) (s:ByteArray) (mi:Bool) (v:Int) (h1:0<s.size) (h2:(s.size:Int)<=200) (h3:¬ (s[0].toNat:Int)=48∨((s[0].toNat:Int)=48/\(s.size:Int)<=1/\mi=false))
    (hv:Hid ((Dg s->v=0)/\(¬ Dg s->v=2)))
    (hcut:∀ w,Calls prog 190 #[.string a,.string ⟨#[45]⟩] w fun e w'=>e = .returned (.tuple #[.string s,.bool mi])/\w=w') :
    Calls prog 181 #[.string a] w fun e w'=>e = .returned (.int .i64 v)/\w=w':=by
 have h0:¬ s.toList=[]:=toList_empty ae;have h0':s.toList.isEmpty=false:=by simpa using h0
 rcases h3 with h3|⟨h3,h4,rfl⟩
 all_goals
  go_enter func181,ntmps181;go_wp2_with (go_at_call 190;refine(hcut _).mono ?_;rintro e w' ⟨rfl,rfl⟩);go_loop [33] (fun i=>∃ k:Nat,k<=s.size/\i = .int .i64 k/\Hid (∀ j (h:j<s.size),j<k->48<=(s[j].toNat:Int)/\(s[j].toNat:Int)<=57)) (fun i=>s.size-(intOf i).toNat)
  case atStart=>exact⟨0,Nat.zero_le _,rfl,aj (fun j h h'=>ae)⟩
  case round =>
   obtain⟨k,hk,rfl,hdg⟩:=hrel;by_cases hlt:k<s.size
   ·rcases Int.lt_or_le (s[k].toNat:Int) 48 with hd|hd
    ·have e2:v=2:=hv.out.2 (fun h=>by have:=(h k hlt).1;omega);have E2:=aj e2;clear e2;go_wp2;go_ret;exact⟨by rw[E2.out];rfl,rfl⟩
    ·rcases Int.lt_or_le 57 (s[k].toNat:Int) with hd2|hd2
     ·have e2:v=2:=hv.out.2 (fun h=>by have:=(h k hlt).2;omega);have E2:=aj e2;clear e2;go_wp2;go_ret;exact⟨by rw[E2.out];rfl,rfl⟩
     ·have HD:=aj (And.intro hd hd2);go_wp2;go_round
      case rel=>exact⟨k+1,ae,by go_num,aj (fun j h h'=>by
       by_cases e:j=k
       ·subst e;exact HD.o
       ·exact hdg.out j h ae)⟩
      case measure=>simp[intOf];omega
   ·have e0:v=0:=hv.out.1 (fun j h=>hdg.out j h ae);have E0:=aj e0;clear e0;go_wp2;go_ret;exact⟨by rw[E0.out];rfl,rfl⟩
def dX(l:List UInt8):Prop:=∃ n:Int,l=zl n/\(Lib.decDigits n.natAbs).length<=200
theorem zk(a:ByteArray)(w:World):Calls prog 190 #[.string a,.string ⟨#[45]⟩] w fun e w' =>
 e = .returned (.tuple #[.string ⟨(Lib.trimPrefix a.data.toList [45]).toArray⟩,.bool (Lib.hasPrefix a.data.toList [45])])/\w=w' :=
 (strings_CutPrefix a ⟨#[45]⟩ w).mono fun _ _ ⟨h1,h2⟩=>⟨h1,h2.symm⟩
theorem lO(l:List UInt8):(∃ t,l=45 :: t/\Lib.trimPrefix l [45]=t/\Lib.hasPrefix l [45]=true)∨((∀ t,l≠45 :: t)/\Lib.trimPrefix l [45]=l/\Lib.hasPrefix l [45]=false):=by
 cases l with
 | nil=>exact Or.inr ⟨by simp,by simp[Lib.trimPrefix,Lib.hasPrefix],by simp[Lib.hasPrefix]⟩
 | cons b t =>
  by_cases h:b=45
  ·subst h;exact Or.inl ⟨t,rfl,by simp[Lib.trimPrefix,Lib.hasPrefix],by simp[Lib.hasPrefix]⟩
  ·exact Or.inr ⟨by simp[h],by simp[Lib.trimPrefix,Lib.hasPrefix,List.isPrefixOf,Ne.symm h],by simp[Lib.hasPrefix,List.isPrefixOf,Ne.symm h]⟩
theorem qE{n:Int}:dX (zl n) ↔ (Lib.decDigits n.natAbs).length<=200 :=
 ⟨fun⟨m,h,h2⟩=>by rw[jf h];exact h2,fun h=>⟨n,rfl,h⟩⟩
theorem u9 (l t:List UInt8) (mi:Bool) (ht:Lib.trimPrefix l [45]=t) (hm:Lib.hasPrefix l [45]=mi) :
    dX l ↔ t≠[]/\t.length<=200/\(t.head?≠some 48∨(t.length=1/\mi=false))/\∀ b ∈ t,cC b=true:=by
 rcases lO l with⟨t',rfl,h1,h2⟩|⟨h0,h1,h2⟩
 ·obtain rfl:t'=t:=by rw[← h1,ht]
  obtain rfl:mi=true:=by rw[← hm,h2]
  constructor
  ·rintro⟨n,hn,hl⟩;have hneg:n<0:=by rw[← ie,← hn];rfl
   rw[bZ hneg] at hn;have e:=(List.cons.inj hn).2;obtain⟨b,r,e2,hb⟩:=iH n.natAbs ae;refine⟨by rw[e];exact gr _,by rw[e];exact hl,Or.inl (by rw[e,e2];simpa using hb),by rw[e];exact a7 _⟩
  ·rintro⟨g1,g2,g3,g4⟩;have g3':t'.head?≠some 48:=by
    rcases g3 with g|⟨_,g⟩
    ·exact g
    ·cases g
   have e:=gh t' g1 g4 (Or.inl g3');have hp:val t'≠0:=by intro hv;rw[hv,gE] at e;rw[← e] at g3';simp at g3'
   refine⟨-(val t':Int),?_,?_⟩
   ·rw[bZ ae,Int.natAbs_neg,Int.natAbs_natCast,e]
   ·rw[Int.natAbs_neg,Int.natAbs_natCast,e];exact g2
 ·obtain rfl:l=t:=by rw[← h1,ht]
  obtain rfl:mi=false:=by rw[← hm,h2]
  constructor
  ·rintro⟨n,hn,hl⟩;have hneg:0<=n:=by
    rcases Int.lt_or_le n 0 with h|h
    ·rw[bZ h] at hn;exact absurd hn (h0 _)
    ·exact h
   rw[bI hneg] at hn;refine⟨by rw[hn];exact gr _,by rw[hn];exact hl,?_,by rw[hn];exact a7 _⟩;by_cases hz:n.natAbs=0
   ·right;rw[hn,hz,gE];exact⟨rfl,rfl⟩
   ·left;obtain⟨b,r,e2,hb⟩:=iH n.natAbs hz;rw[hn,e2];simpa using hb
  ·rintro⟨g1,g2,g3,g4⟩;have e:=gh l g1 g4 (by
    rcases g3 with g|⟨g,_⟩
    ·exact Or.inl g
    ·obtain⟨b,rfl⟩:=List.length_eq_one_iff.1 g;by_cases hb:b=48
     ·right;rw[hb]
     ·left;simp[hb])
   exact⟨(val l:Int),by rw[dr,e],by rw[Int.natAbs_natCast,e];exact g2⟩
theorem cI (a:ByteArray) (w:World) (v:Int) (hv:(dX a.data.toList->v=0)/\(¬ dX a.data.toList->v=2)) :
    Calls prog 181 #[.string a] w fun e w'=>e = .returned (.int .i64 v)/\w=w':=by
 obtain⟨t,ht⟩:∃ t,Lib.trimPrefix a.data.toList [45]=t:=⟨_,rfl⟩
 obtain⟨mi,hm⟩:∃ mi,Lib.hasPrefix a.data.toList [45]=mi:=⟨_,rfl⟩
 have hcut:=zk a;rw[ht,hm] at hcut;have hiff:=u9 a.data.toList t mi ht hm;obtain⟨s,hs⟩:∃ s:ByteArray,s=⟨t.toArray⟩:=⟨_,rfl⟩
 rw[← hs] at hcut;have hst:s.data.toList=t:=by rw[hs]
 have hsz:s.size=t.length:=by rw[← hst,Array.length_toList];rfl
 have hh:∀ h:0<s.size,t.head?=some s[0]:=fun h=>by
  rw[aU s 0 h,List.head?_eq_getElem?,← hst];exact List.getElem?_eq_getElem _
 clear hs;by_cases h0:t=[]
 ·rw[hv.2 (fun h=>(hiff.1 h).1 h0)];exact pN a w s mi (by rw[toList_data,hst,h0]) hcut
 ·have h1:0<s.size:=by rw[hsz];exact List.length_pos_iff.2 h0
  by_cases h2:t.length<=200
  ·have e0:t.head?=some 48 ↔ (s[0].toNat:Int)=48:=by
    rw[hh h1];simp only[Option.some.injEq];constructor
    ·intro e;rw[e];rfl
    ·intro e;apply UInt8.toNat_inj.1;show s[0].toNat=48;omega
   by_cases h3:t.head?≠some 48∨(t.length=1/\mi=false)
   ·refine q7 a w s mi v h1 ae ?_ (aj ⟨fun hd=>hv.1 (hiff.2 ⟨h0,h2,h3,by rw[← hst];exact(tc s).1 hd⟩),fun hd=>hv.2 (fun hr=>hd ((tc s).2 (by rw[hst];exact(hiff.1 hr).2.2.2)))⟩) hcut;by_cases h4:(s[0].toNat:Int)=48
    ·right;rcases h3 with h3|⟨h3,h5⟩
     ·exact absurd (e0.2 h4) h3
     ·exact⟨h4,ae,h5⟩
    ·exact Or.inl h4
   ·rw[hv.2 (fun h=>h3 (hiff.1 h).2.2.1)];refine q6 a w s mi h1 ae (e0.1 (by
     by_cases h:t.head?=some 48
     ·exact h
     ·exact absurd (Or.inl h) h3)) ?_ hcut
    by_cases h5:t.length=1
    ·right;refine⟨ae,?_⟩;cases mi
     ·exact absurd (Or.inr ⟨h5,rfl⟩) h3
     ·rfl
    ·left;omega
  ·rw[hv.2 (fun h=>h2 (hiff.1 h).2.1)];exact q8 a w s mi ae hcut
end Go.Proofs.YtmahadmefplbnaaGreatDoor
