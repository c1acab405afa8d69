/- Part 10. -/
import Derived.Test.YtmahadmefplbnaaGreatDoorQRV5
import Derived.Test.YtmahadmefplbnaaGreatDoorQRV9
set_option maxRecDepth 100000
set_option maxHeartbeats 2000000
theorem Go.Proofs.YtmahadmefplbnaaGreatDoor.Hi10 {p:Prop} (h:p):Go.RowKit.Hid p:=h
namespace Go.Proofs.YtmahadmefplbnaaGreatDoor
open Go Go.RowKit
theorem toList_data (s:ByteArray):s.toList=s.data.toList:=by
 first|exact ByteArray.toList_eq s|simp
theorem zs_toList (n:Int):(zs n).toList=zl n:=by rw [toList_data,zs_list]
theorem qs_toList (q:Rat):(qs q).toList=ql q:=by rw [toList_data,qs_list]
theorem zl_eq0 {n:Int}:zl n=[48] ↔ n=0:=⟨fun h=>zl_inj (by rw [h,zl_0]),fun h=>by rw [h,zl_0]⟩
theorem zl_eq1 {n:Int}:zl n=[49] ↔ n=1:=⟨fun h=>zl_inj (by rw [h,zl_1]),fun h=>by rw [h,zl_1]⟩
theorem zs_is0 {n:Int} (h:n=0):((zs n).toList == [48])=true:=by rw [zs_toList,zl_eq0.2 h];rfl
theorem zs_not0 {n:Int} (h:n≠0):((zs n).toList == [48])=false:=by rw [zs_toList];simpa using fun e=>h (zl_eq0.1 e)
theorem zs_is1 {n:Int} (h:n=1):((zs n).toList == [49])=true:=by rw [zs_toList,zl_eq1.2 h];rfl
theorem zs_not1 {n:Int} (h:n≠1):((zs n).toList == [49])=false:=by rw [zs_toList];simpa using fun e=>h (zl_eq1.1 e)
theorem hasp_c (n:Int) (w:World):Calls Tryz.prog 233 #[.string (zs n),.string ⟨#[45]⟩] w fun e w'=>e = .returned (.bool (decide (n<0)))/\w=w':=by
 refine (Tryz.strings_HasPrefix (zs n) ⟨#[45]⟩ w).mono fun e w' ⟨h1,h2⟩=>⟨?_,h2.symm⟩
 rw [zs_list,show (⟨#[45]⟩:ByteArray).data.toList=[45] from rfl,has_zl] at h1;exact h1
theorem trimp_c (n:Int) (w:World):Calls Tryz.prog 165 #[.string (zs n),.string ⟨#[45]⟩] w fun e w'=>e = .returned (.string (zs n.natAbs))/\w=w':=by
 refine (Tryz.strings_TrimPrefix (zs n) ⟨#[45]⟩ w).mono fun e w' ⟨h1,h2⟩=>⟨?_,h2.symm⟩
 rw [zs_list,show (⟨#[45]⟩:ByteArray).data.toList=[45] from rfl,trim_zl] at h1;rw [h1];unfold zs;rw [zl_nat]
theorem sign_c (n:Int) (w:World):Calls Tryz.prog 164 #[.string (zs n)] w fun e w'=>e = .returned (.int .i64 n.sign)/\w=w':=by
 by_cases h0:n=0
 ·have h1:=zs_is0 h0;have h2:n.sign=0:=by rw [h0];rfl
  have H2:=Hi10 h2;clear h0 h2;go_enter Tryz.func164,Tryz.ntmps164;go_wp2_with fail;go_ret;exact ⟨by rw [H2.out];rfl,rfl⟩
 ·have h1:=zs_not0 h0;by_cases hn:n<0
  ·have h2:n.sign=-1:=Int.sign_eq_neg_one_of_neg hn;have H2:=Hi10 h2;clear h0 h2;go_enter Tryz.func164,Tryz.ntmps164;go_wp2_with (go_at_call 233;refine (hasp_c n _).mono ?_;rintro e w' ⟨rfl,rfl⟩);go_ret;exact ⟨by rw [H2.out];rfl,rfl⟩
  ·have h2:n.sign=1:=Int.sign_eq_one_of_pos (by omega);have H2:=Hi10 h2;clear h0 h2;go_enter Tryz.func164,Tryz.ntmps164;go_wp2_with (go_at_call 233;refine (hasp_c n _).mono ?_;rintro e w' ⟨rfl,rfl⟩);go_ret;exact ⟨by rw [H2.out];rfl,rfl⟩
theorem zs_neg_pos {n:Int} (h:0<n):(⟨#[45]⟩:ByteArray) ++ zs n=zs (-n):=by
 apply bytes_ext;rw [zs_list,zl_neg (by omega),Int.natAbs_neg];show (⟨#[45]⟩ ++ zs n:ByteArray).data.toList=_;rw [ByteArray.data_append,Array.toList_append,zs_list,zl_pos (by omega)];rfl
theorem zs_tail {n:Int} (h:n<0):(zs n).extract 1 (zs n).size=zs (-n):=by
 apply bytes_ext;rw [ByteArray.data_extract,Array.toList_extract,zs_list,zs_list,zs_size,zl_neg h,zl_pos (show 0<=-n by omega),Int.natAbs_neg];simp
theorem zs_pos (n:Int):0<(zs n).size:=by
 rw [zs_size];exact List.length_pos_iff.2 (zl_ne n)
theorem neg_c (n:Int) (w:World) (hl:(zl n).length<=100000):Calls Tryz.prog 248 #[.string (zs n)] w fun e w'=>e = .returned (.string (zs (-n)))/\w=w':=by
 have hp:=zs_pos n;have hp1:1<=(zs n).size:=hp;rw [← zs_size] at hl;rcases Int.lt_trichotomy n 0 with h|h|h
 ·have h2:n.sign=-1:=Int.sign_eq_neg_one_of_neg h;have H:=Hi10 h;have H2:=Hi10 (zs_tail h);clear h;go_enter Tryz.func248,Tryz.ntmps248;go_wp2_with (go_at_call 164;refine (sign_c n _).mono ?_;rw [h2];rintro e w' ⟨rfl,rfl⟩);go_ret;exact ⟨by rw [← H2.out];rfl,rfl⟩
 ·subst h;go_enter Tryz.func248,Tryz.ntmps248;go_wp2_with (go_at_call 164;refine (sign_c 0 _).mono ?_;rintro e w' ⟨rfl,rfl⟩);go_ret;exact ⟨rfl,rfl⟩
 ·have h2:n.sign=1:=Int.sign_eq_one_of_pos h;have H:=Hi10 h;have H2:=Hi10 (zs_neg_pos h);clear h;go_enter Tryz.func248,Tryz.ntmps248;go_wp2_with (go_at_call 164;refine (sign_c n _).mono ?_;rw [h2];rintro e w' ⟨rfl,rfl⟩);go_ret;exact ⟨by rw [← H2.out];rfl,rfl⟩
theorem of_c (n:Int) (h0:-9223372036854775808<=n) (h1:n<=9223372036854775807) (w:World) (g:Gd w):Calls Tryz.prog 168 #[.int .i64 n] w (Ret w (.string (zs n))):=by
 have H:=Hi10 (And.intro h0 h1);clear h0 h1;go_enter Tryz.func168,Tryz.ntmps168;go_wp2_with (go_at_call 193;refine (itoa_c n H.out.1 H.out.2 _ g).mono ?_;rintro e w' ⟨rfl,e1⟩);go_ret;exact ⟨rfl,e1⟩
theorem quick_no (n most:Int) (w:World) (h:most<(zl n).length):Calls Tryz.prog 167 #[.string (zs n),.int .i64 most] w (Ret w (.tuple #[.int .i64 0,.bool false])):=by
 rw [← zs_size] at h;go_enter Tryz.func167,Tryz.ntmps167;go_wp2_with fail;go_ret2;exact ⟨rfl,Ext.refl _⟩
theorem quick_yes (n most:Int) (w:World) (h:(zl n).length<=most) (hm:most<=18):Calls Tryz.prog 167 #[.string (zs n),.int .i64 most] w (Ret w (.tuple #[.int .i64 n,.bool true])):=by
 have h18:(zl n).length<=18:=by omega
 rw [← zs_size] at h;have h':¬ most<(zs n).size:=by omega
 go_enter Tryz.func167,Tryz.ntmps167;go_wp2_with (go_at_call 236;refine (atoi_c n h18 _).mono ?_;rintro e w1 ⟨rfl,e1⟩);go_region
 all_goals
  go_wp2;go_ret2;exact ⟨rfl,e1.drew⟩
def icmp (a b:Int):Int:=if a<b then -1 else if a=b then 0 else 1
theorem icmp_lt {a b:Int} (h:a<b):icmp a b=-1:=by unfold icmp;rw [if_pos h]
theorem icmp_eq (a:Int):icmp a a=0:=by unfold icmp;rw [if_neg (by omega),if_pos rfl]
theorem icmp_gt {a b:Int} (h:b<a):icmp a b=1:=by unfold icmp;rw [if_neg (by omega),if_neg (by omega)]
theorem icmp_bd (a b:Int):-1<=icmp a b/\icmp a b<=1:=by unfold icmp;split <;> (try split) <;> omega
theorem dec_len_lt {m n:Nat} (h:(Lib.decDigits m).length<(Lib.decDigits n).length):m<n:=by
 have h1:=dec_lt_pow m;have h0:=dec_len_pos m;have hn:n≠0:=by intro e;subst e;rw [dec_zero] at h;have:([48]:List UInt8).length=1:=rfl;omega
 have h2:=dec_pow_le n hn;exact Nat.lt_of_lt_of_le h1 (Nat.le_trans (Nat.pow_le_pow_right (by decide) (by omega)) h2)
theorem cmp_digs:∀ (l m:List UInt8),(∀ b ∈ l,isDig b=true)->(∀ b ∈ m,isDig b=true)->l.length=m.length->Lib.compareBytes l m=icmp (val l) (val m)
 | [],[],_,_,_=>(icmp_eq _).symm
 | [],_ :: _,_,_,h=>by simp at h
 | _ :: _,[],_,_,h=>by simp at h
 | a :: l,b :: m,hl,hm,h=>by
  have ih:=cmp_digs l m (fun x hx=>hl x (by simp [hx])) (fun x hx=>hm x (by simp [hx])) (by simpa using h);have h1:=val_lt l (fun x hx=>hl x (by simp [hx]));have h2:=val_lt m (fun x hx=>hm x (by simp [hx]));have e1:val (a :: l)=(a.toNat-48)*10 ^ l.length+val l:=by
   have:=val_append [a] l;simpa [val_single] using this
  have e2:val (b :: m)=(b.toNat-48)*10 ^ l.length+val m:=by
   have:=val_append [b] m;rw [show l.length=m.length by simpa using h];simpa [val_single] using this
  rw [show m.length = l.length by have : l.length = m.length := by simpa using h
                                  omega] at h2
  have da:=(isDig_iff a).1 (hl a (by simp));have db:=(isDig_iff b).1 (hm b (by simp));unfold Lib.compareBytes;rw [e1,e2];generalize 10 ^ l.length=p at *;by_cases hab:a<b
  ·rw [if_pos hab,icmp_lt];have hab':a.toNat<b.toNat:=hab;have:((a.toNat-48)+1)*p<=(b.toNat-48)*p:=Nat.mul_le_mul_right _ (by omega);rw [Nat.add_mul] at this;omega
  ·rw [if_neg hab];by_cases hba:b<a
   ·rw [if_pos hba,icmp_gt];have hba':b.toNat<a.toNat:=hba;have:((b.toNat-48)+1)*p<=(a.toNat-48)*p:=Nat.mul_le_mul_right _ (by omega);rw [Nat.add_mul] at this;omega
   ·rw [if_neg hba,ih];have hab':¬ a.toNat<b.toNat:=hab;have hba':¬ b.toNat<a.toNat:=hba;have e:a.toNat=b.toNat:=by omega
    rw [e];unfold icmp
    congr 1
    ·apply propext;omega
    ·congr 1
     apply propext;omega
theorem cmp_dec {m n:Nat} (h:(Lib.decDigits m).length=(Lib.decDigits n).length):Lib.compareBytes (Lib.decDigits m) (Lib.decDigits n)=icmp m n:=by
 rw [cmp_digs _ _ (dec_digs m) (dec_digs n) h,dec_val,dec_val]
theorem zs_nat_size (n:Nat):(zs (n:Int)).size=(Lib.decDigits n).length:=by rw [zs_size,zl_nat]
theorem scmp_c (m n:Nat) (h:(zs (m:Int)).size=(zs (n:Int)).size) (w:World):Calls Tryz.prog 166 #[.string (zs (m:Int)),.string (zs (n:Int))] w fun e w'=>e = .returned (.int .i64 (icmp m n))/\w=w':=by
 refine (Tryz.strings_Compare (zs (m:Int)) (zs (n:Int)) w).mono fun e w' ⟨h1,h2⟩=>⟨?_,h2.symm⟩
 rw [zs_nat_size,zs_nat_size] at h;rw [zs_list,zs_list,zl_nat,zl_nat,cmp_dec h] at h1;exact h1
theorem compare_diff (a b:Int) (w:World) (h:a.sign≠b.sign):Calls Tryz.prog 87 #[.string (zs a),.string (zs b)] w fun e w'=>e = .returned (.int .i64 (icmp a b))/\w=w':=by
 obtain ⟨x,hx⟩:∃ x,x=a.sign:=⟨_,rfl⟩
 obtain ⟨y,hy⟩:∃ y,y=b.sign:=⟨_,rfl⟩
 have hr:x<y/\icmp a b=-1∨y<x/\icmp a b=1:=by
  rcases Int.lt_trichotomy a 0 with ha|ha|ha <;> rcases Int.lt_trichotomy b 0 with hb|hb|hb
  all_goals
   first
    | (exfalso;apply h;simp [Int.sign_eq_neg_one_of_neg,Int.sign_eq_one_of_pos,ha,hb];done)
    | (left;refine ⟨?_,icmp_lt (by omega)⟩;rw [hx,hy];simp [Int.sign_eq_neg_one_of_neg,Int.sign_eq_one_of_pos,ha,hb];done)
    | (right;refine ⟨?_,icmp_gt (by omega)⟩;rw [hx,hy];simp [Int.sign_eq_neg_one_of_neg,Int.sign_eq_one_of_pos,ha,hb];done)
 have HX:=Hi10 hx;have HY:=Hi10 hy;clear hx hy h;rcases hr with ⟨h1,h2⟩|⟨h1,h2⟩
 all_goals
  have H2:=Hi10 h2;clear h2;have hne:¬ x=y:=by omega
  go_enter Tryz.func87,Tryz.ntmps87;go_wp2_with (first
   | (go_at_call 164;((with_reducible refine (sign_c a _).mono ?_);rw [← HX.out];rintro e w' ⟨rfl,rfl⟩))
   | (go_at_call 164;refine (sign_c b _).mono ?_;rw [← HY.out];rintro e w' ⟨rfl,rfl⟩))
  go_ret;exact ⟨by rw [H2.out];rfl,rfl⟩
theorem icmp_abs {a b x:Int} (ha:x=a.sign) (hb:x=b.sign):icmp a b=x*icmp a.natAbs b.natAbs:=by
 rcases Int.lt_trichotomy a 0 with h|h|h
 ·have e1:a.sign=-1:=Int.sign_eq_neg_one_of_neg h;have hb':b<0:=by rw [← Int.sign_eq_neg_one_iff_neg];omega
  rw [ha,e1];unfold icmp;split <;> split <;> (try split) <;> (try split) <;> omega
 ·subst h;have:b=0:=by rw [← Int.sign_eq_zero_iff_zero,← hb,ha];rfl
  subst this;simp [ha,icmp]
 ·have e1:a.sign=1:=Int.sign_eq_one_of_pos h;have hb':0<b:=by rw [← Int.sign_eq_one_iff_pos];omega
  rw [ha,e1];unfold icmp;split <;> split <;> (try split) <;> (try split) <;> omega
theorem compare_same (a b x:Int) (w:World) (ha:x=a.sign) (hb:x=b.sign) (hx:x=-1∨x=0∨x=1):Calls Tryz.prog 87 #[.string (zs a),.string (zs b)] w fun e w'=>e = .returned (.int .i64 (icmp a b))/\w=w':=by
 have HA:=Hi10 ha;have HB:=Hi10 hb;rw [icmp_abs ha hb];clear ha hb;obtain ⟨m,hm⟩:∃ m,m=a.natAbs:=⟨_,rfl⟩
 obtain ⟨n,hn⟩:∃ n,n=b.natAbs:=⟨_,rfl⟩
 rw [← hm,← hn];have HM:=Hi10 hm;have HN:=Hi10 hn;have bd:=icmp_bd m n;obtain ⟨c,hc⟩:∃ c,c=icmp m n:=⟨_,rfl⟩
 rw [← hc] at bd ⊢;obtain ⟨bd1,bd2⟩:=bd;have HC:=Hi10 hc;clear hm hn hc;rcases Nat.lt_trichotomy (zs (m:Int)).size (zs (n:Int)).size with h|h|h
 ·have hc:c=-1:=by rw [HC.out];exact icmp_lt (by have:=dec_len_lt (by rw [zs_nat_size,zs_nat_size] at h;exact h);omega)
  have HCC:=Hi10 hc;clear hc;have hne:¬ (zs (m:Int)).size=(zs (n:Int)).size:=by omega
  rcases hx with rfl|rfl|rfl
  all_goals
   go_enter Tryz.func87,Tryz.ntmps87;go_wp2_with (first
    | (go_at_call 164;((with_reducible refine (sign_c a _).mono ?_);rw [← HA.out];rintro e w' ⟨rfl,rfl⟩))
    | (go_at_call 164;refine (sign_c b _).mono ?_;rw [← HB.out];rintro e w' ⟨rfl,rfl⟩)
    | (go_at_call 165;((with_reducible refine (trimp_c a _).mono ?_);rw [← HM.out];rintro e w' ⟨rfl,rfl⟩))
    | (go_at_call 165;refine (trimp_c b _).mono ?_;rw [← HN.out];rintro e w' ⟨rfl,rfl⟩))
   go_ret;exact ⟨by rw [HCC.out];rfl,rfl⟩
 ·rcases hx with rfl|rfl|rfl
  all_goals
   go_enter Tryz.func87,Tryz.ntmps87;go_wp2_with (first
    | (go_at_call 164;((with_reducible refine (sign_c a _).mono ?_);rw [← HA.out];rintro e w' ⟨rfl,rfl⟩))
    | (go_at_call 164;refine (sign_c b _).mono ?_;rw [← HB.out];rintro e w' ⟨rfl,rfl⟩)
    | (go_at_call 165;((with_reducible refine (trimp_c a _).mono ?_);rw [← HM.out];rintro e w' ⟨rfl,rfl⟩))
    | (go_at_call 165;refine (trimp_c b _).mono ?_;rw [← HN.out];rintro e w' ⟨rfl,rfl⟩)
    | (go_at_call 166;refine (scmp_c m n h _).mono ?_;rw [← HC.out];rintro e w' ⟨rfl,rfl⟩))
   go_ret
   first|exact ⟨rfl,rfl⟩|exact ⟨by simp,rfl⟩
 ·have hc:c=1:=by rw [HC.out];exact icmp_gt (by have:=dec_len_lt (by rw [zs_nat_size,zs_nat_size] at h;exact h);omega)
  have HCC:=Hi10 hc;clear hc;have hne:¬ (zs (m:Int)).size=(zs (n:Int)).size:=by omega
  rcases hx with rfl|rfl|rfl
  all_goals
   go_enter Tryz.func87,Tryz.ntmps87;go_wp2_with (first
    | (go_at_call 164;((with_reducible refine (sign_c a _).mono ?_);rw [← HA.out];rintro e w' ⟨rfl,rfl⟩))
    | (go_at_call 164;refine (sign_c b _).mono ?_;rw [← HB.out];rintro e w' ⟨rfl,rfl⟩)
    | (go_at_call 165;((with_reducible refine (trimp_c a _).mono ?_);rw [← HM.out];rintro e w' ⟨rfl,rfl⟩))
    | (go_at_call 165;refine (trimp_c b _).mono ?_;rw [← HN.out];rintro e w' ⟨rfl,rfl⟩))
   go_ret;exact ⟨by rw [HCC.out];rfl,rfl⟩
theorem compare_c (a b:Int) (w:World):Calls Tryz.prog 87 #[.string (zs a),.string (zs b)] w fun e w'=>e = .returned (.int .i64 (icmp a b))/\w=w':=by
 by_cases h:a.sign=b.sign
 ·refine compare_same a b a.sign w rfl h ?_;rcases Int.lt_trichotomy a 0 with ha|ha|ha
  ·exact Or.inl (Int.sign_eq_neg_one_of_neg ha)
  ·subst ha;exact Or.inr (Or.inl rfl)
  ·exact Or.inr (Or.inr (Int.sign_eq_one_of_pos ha))
 ·exact compare_diff a b w h
def Dg (s:ByteArray):Prop:=∀ k (h:k<s.size),48<=(s[k].toNat:Int)/\(s[k].toNat:Int)<=57
theorem bytes_getElem (s:ByteArray) (k:Nat) (h:k<s.size):s[k]=s.data.toList[k]'(by rw [Array.length_toList];exact h):=by
 rw [Array.getElem_toList];rfl
theorem dg_iff (s:ByteArray):Dg s ↔ ∀ b ∈ s.data.toList,isDig b=true:=by
 constructor
 ·intro h b hb;obtain ⟨k,hk,rfl⟩:=List.mem_iff_getElem.1 hb;have hk':k<s.size:=by rw [Array.length_toList] at hk;exact hk
  have:=h k hk';rw [bytes_getElem s k hk'] at this;rw [isDig_iff];omega
 ·intro h k hk;have:=h s[k] (by rw [bytes_getElem s k hk];exact List.getElem_mem _);rw [isDig_iff] at this;omega
theorem toList_empty {s:ByteArray} (h:1<=s.size):¬ s.toList=[]:=by
 rw [toList_data];intro e;have:=congrArg List.length e;rw [Array.length_toList,List.length_nil] at this;have e2:s.data.size=s.size:=rfl;omega
set_option maxHeartbeats 1000000 in
theorem icheck_empty (a:ByteArray) (w:World) (s:ByteArray) (mi:Bool) (hs:s.toList=[])
    (hcut:∀ w,Calls Tryz.prog 190 #[.string a,.string ⟨#[45]⟩] w fun e w'=>e = .returned (.tuple #[.string s,.bool mi])/\w=w') :
    Calls Tryz.prog 181 #[.string a] w fun e w'=>e = .returned (.int .i64 2)/\w=w':=by
 go_enter Tryz.func181,Tryz.ntmps181;go_wp2_with (go_at_call 190;refine (hcut _).mono ?_;rintro e w' ⟨rfl,rfl⟩);go_ret;exact ⟨rfl,rfl⟩
set_option maxHeartbeats 1000000 in
theorem icheck_long (a:ByteArray) (w:World) (s:ByteArray) (mi:Bool) (hs:(200:Int)<s.size)
    (hcut:∀ w,Calls Tryz.prog 190 #[.string a,.string ⟨#[45]⟩] w fun e w'=>e = .returned (.tuple #[.string s,.bool mi])/\w=w') :
    Calls Tryz.prog 181 #[.string a] w fun e w'=>e = .returned (.int .i64 2)/\w=w':=by
 have h0:¬ s.toList=[]:=toList_empty (by omega);have h0':s.toList.isEmpty=false:=by simpa using h0
 go_enter Tryz.func181,Tryz.ntmps181;go_wp2_with (go_at_call 190;refine (hcut _).mono ?_;rintro e w' ⟨rfl,rfl⟩);go_ret;exact ⟨rfl,rfl⟩
set_option maxHeartbeats 1000000 in
theorem icheck_zero (a:ByteArray) (w:World) (s:ByteArray) (mi:Bool) (h1:0<s.size) (h2:(s.size:Int)<=200) (h3:(s[0].toNat:Int)=48) (h4:(1:Int)<s.size∨((s.size:Int)<=1/\mi=true))
    (hcut:∀ w,Calls Tryz.prog 190 #[.string a,.string ⟨#[45]⟩] w fun e w'=>e = .returned (.tuple #[.string s,.bool mi])/\w=w') :
    Calls Tryz.prog 181 #[.string a] w fun e w'=>e = .returned (.int .i64 2)/\w=w':=by
 have h0:¬ s.toList=[]:=toList_empty (by omega);have h0':s.toList.isEmpty=false:=by simpa using h0
 rcases h4 with h4|⟨h4,rfl⟩
 all_goals
  go_enter Tryz.func181,Tryz.ntmps181;go_wp2_with (go_at_call 190;refine (hcut _).mono ?_;rintro e w' ⟨rfl,rfl⟩);go_ret;exact ⟨rfl,rfl⟩
theorem icheck_loop (a:ByteArray) (w:World) (s:ByteArray) (mi:Bool) (v:Int) (h1:0<s.size) (h2:(s.size:Int)<=200) (h3:¬ (s[0].toNat:Int)=48∨((s[0].toNat:Int)=48/\(s.size:Int)<=1/\mi=false))
    (hv:Hid ((Dg s->v=0)/\(¬ Dg s->v=2)))
    (hcut:∀ w,Calls Tryz.prog 190 #[.string a,.string ⟨#[45]⟩] w fun e w'=>e = .returned (.tuple #[.string s,.bool mi])/\w=w') :
    Calls Tryz.prog 181 #[.string a] w fun e w'=>e = .returned (.int .i64 v)/\w=w':=by
 have h0:¬ s.toList=[]:=toList_empty (by omega);have h0':s.toList.isEmpty=false:=by simpa using h0
 rcases h3 with h3|⟨h3,h4,rfl⟩
 all_goals
  go_enter Tryz.func181,Tryz.ntmps181;go_wp2_with (go_at_call 190;refine (hcut _).mono ?_;rintro e w' ⟨rfl,rfl⟩);go_loop [33] (fun i=>∃ k:Nat,k<=s.size/\i = .int .i64 k/\Hid (∀ j (h:j<s.size),j<k->48<=(s[j].toNat:Int)/\(s[j].toNat:Int)<=57)) (fun i=>s.size-(intOf i).toNat)
  case atStart=>exact ⟨0,Nat.zero_le _,rfl,Hi10 (fun j h h'=>by omega)⟩
  case round =>
   obtain ⟨k,hk,rfl,hdg⟩:=hrel;by_cases hlt:k<s.size
   ·rcases Int.lt_or_le (s[k].toNat:Int) 48 with hd|hd
    ·have e2:v=2:=hv.out.2 (fun h=>by have:=(h k hlt).1;omega);have E2:=Hi10 e2;clear e2;go_wp2;go_ret;exact ⟨by rw [E2.out];rfl,rfl⟩
    ·rcases Int.lt_or_le 57 (s[k].toNat:Int) with hd2|hd2
     ·have e2:v=2:=hv.out.2 (fun h=>by have:=(h k hlt).2;omega);have E2:=Hi10 e2;clear e2;go_wp2;go_ret;exact ⟨by rw [E2.out];rfl,rfl⟩
     ·have HD:=Hi10 (And.intro hd hd2);go_wp2;go_round
      case rel=>exact ⟨k+1,by omega,by go_num,Hi10 (fun j h h'=>by
       by_cases e:j=k
       ·subst e;exact HD.out
       ·exact hdg.out j h (by omega))⟩
      case measure=>simp [intOf];omega
   ·have e0:v=0:=hv.out.1 (fun j h=>hdg.out j h (by omega));have E0:=Hi10 e0;clear e0;go_wp2;go_ret;exact ⟨by rw [E0.out];rfl,rfl⟩
def RightI (l:List UInt8):Prop:=∃ n:Int,l=zl n/\(Lib.decDigits n.natAbs).length<=200
theorem cutp_c (a:ByteArray) (w:World):Calls Tryz.prog 190 #[.string a,.string ⟨#[45]⟩] w fun e w' =>
 e = .returned (.tuple #[.string ⟨(Lib.trimPrefix a.data.toList [45]).toArray⟩,.bool (Lib.hasPrefix a.data.toList [45])])/\w=w' :=
 (Tryz.strings_CutPrefix a ⟨#[45]⟩ w).mono fun _ _ ⟨h1,h2⟩=>⟨h1,h2.symm⟩
theorem trim_cases (l:List UInt8):(∃ t,l=45 :: t/\Lib.trimPrefix l [45]=t/\Lib.hasPrefix l [45]=true)∨((∀ t,l≠45 :: t)/\Lib.trimPrefix l [45]=l/\Lib.hasPrefix l [45]=false):=by
 cases l with
 | nil=>exact Or.inr ⟨by simp,by simp [Lib.trimPrefix,Lib.hasPrefix],by simp [Lib.hasPrefix]⟩
 | cons b t =>
  by_cases h:b=45
  ·subst h;exact Or.inl ⟨t,rfl,by simp [Lib.trimPrefix,Lib.hasPrefix],by simp [Lib.hasPrefix]⟩
  ·exact Or.inr ⟨by simp [h],by simp [Lib.trimPrefix,Lib.hasPrefix,List.isPrefixOf,Ne.symm h],by simp [Lib.hasPrefix,List.isPrefixOf,Ne.symm h]⟩
theorem right_zl {n:Int}:RightI (zl n) ↔ (Lib.decDigits n.natAbs).length<=200 :=
 ⟨fun ⟨m,h,h2⟩=>by rw [zl_inj h];exact h2,fun h=>⟨n,rfl,h⟩⟩
theorem right_iff (l t:List UInt8) (mi:Bool) (ht:Lib.trimPrefix l [45]=t) (hm:Lib.hasPrefix l [45]=mi) :
    RightI l ↔ t≠[]/\t.length<=200/\(t.head?≠some 48∨(t.length=1/\mi=false))/\∀ b ∈ t,isDig b=true:=by
 rcases trim_cases l with ⟨t',rfl,h1,h2⟩|⟨h0,h1,h2⟩
 ·obtain rfl:t'=t:=by rw [← h1,ht]
  obtain rfl:mi=true:=by rw [← hm,h2]
  constructor
  ·rintro ⟨n,hn,hl⟩;have hneg:n<0:=by rw [← zl_head_neg,← hn];rfl
   rw [zl_neg hneg] at hn;have e:=(List.cons.inj hn).2;obtain ⟨b,r,e2,hb⟩:=dec_head n.natAbs (by omega);refine ⟨by rw [e];exact dec_ne _,by rw [e];exact hl,Or.inl (by rw [e,e2];simpa using hb),by rw [e];exact dec_digs _⟩
  ·rintro ⟨g1,g2,g3,g4⟩;have g3':t'.head?≠some 48:=by
    rcases g3 with g|⟨_,g⟩
    ·exact g
    ·cases g
   have e:=dec_of_digs t' g1 g4 (Or.inl g3');have hp:val t'≠0:=by intro hv;rw [hv,dec_zero] at e;rw [← e] at g3';simp at g3'
   refine ⟨-(val t':Int),?_,?_⟩
   ·rw [zl_neg (by omega),Int.natAbs_neg,Int.natAbs_natCast,e]
   ·rw [Int.natAbs_neg,Int.natAbs_natCast,e];exact g2
 ·obtain rfl:l=t:=by rw [← h1,ht]
  obtain rfl:mi=false:=by rw [← hm,h2]
  constructor
  ·rintro ⟨n,hn,hl⟩;have hneg:0<=n:=by
    rcases Int.lt_or_le n 0 with h|h
    ·rw [zl_neg h] at hn;exact absurd hn (h0 _)
    ·exact h
   rw [zl_pos hneg] at hn;refine ⟨by rw [hn];exact dec_ne _,by rw [hn];exact hl,?_,by rw [hn];exact dec_digs _⟩;by_cases hz:n.natAbs=0
   ·right;rw [hn,hz,dec_zero];exact ⟨rfl,rfl⟩
   ·left;obtain ⟨b,r,e2,hb⟩:=dec_head n.natAbs hz;rw [hn,e2];simpa using hb
  ·rintro ⟨g1,g2,g3,g4⟩;have e:=dec_of_digs l g1 g4 (by
    rcases g3 with g|⟨g,_⟩
    ·exact Or.inl g
    ·obtain ⟨b,rfl⟩:=List.length_eq_one_iff.1 g;by_cases hb:b=48
     ·right;rw [hb]
     ·left;simp [hb])
   exact ⟨(val l:Int),by rw [zl_nat,e],by rw [Int.natAbs_natCast,e];exact g2⟩
theorem icheck_c (a:ByteArray) (w:World) (v:Int) (hv:(RightI a.data.toList->v=0)/\(¬ RightI a.data.toList->v=2)) :
    Calls Tryz.prog 181 #[.string a] w fun e w'=>e = .returned (.int .i64 v)/\w=w':=by
 obtain ⟨t,ht⟩:∃ t,Lib.trimPrefix a.data.toList [45]=t:=⟨_,rfl⟩
 obtain ⟨mi,hm⟩:∃ mi,Lib.hasPrefix a.data.toList [45]=mi:=⟨_,rfl⟩
 have hcut:=cutp_c a;rw [ht,hm] at hcut;have hiff:=right_iff a.data.toList t mi ht hm;obtain ⟨s,hs⟩:∃ s:ByteArray,s=⟨t.toArray⟩:=⟨_,rfl⟩
 rw [← hs] at hcut;have hst:s.data.toList=t:=by rw [hs]
 have hsz:s.size=t.length:=by rw [← hst,Array.length_toList];rfl
 have hh:∀ h:0<s.size,t.head?=some s[0]:=fun h=>by
  rw [bytes_getElem s 0 h,List.head?_eq_getElem?,← hst];exact List.getElem?_eq_getElem _
 clear hs;by_cases h0:t=[]
 ·rw [hv.2 (fun h=>(hiff.1 h).1 h0)];exact icheck_empty a w s mi (by rw [toList_data,hst,h0]) hcut
 ·have h1:0<s.size:=by rw [hsz];exact List.length_pos_iff.2 h0
  by_cases h2:t.length<=200
  ·have e0:t.head?=some 48 ↔ (s[0].toNat:Int)=48:=by
    rw [hh h1];simp only [Option.some.injEq];constructor
    ·intro e;rw [e];rfl
    ·intro e;apply UInt8.toNat_inj.1;show s[0].toNat=48;omega
   by_cases h3:t.head?≠some 48∨(t.length=1/\mi=false)
   ·refine icheck_loop a w s mi v h1 (by omega) ?_ (Hi10 ⟨fun hd=>hv.1 (hiff.2 ⟨h0,h2,h3,by rw [← hst];exact (dg_iff s).1 hd⟩),fun hd=>hv.2 (fun hr=>hd ((dg_iff s).2 (by rw [hst];exact (hiff.1 hr).2.2.2)))⟩) hcut;by_cases h4:(s[0].toNat:Int)=48
    ·right;rcases h3 with h3|⟨h3,h5⟩
     ·exact absurd (e0.2 h4) h3
     ·exact ⟨h4,by omega,h5⟩
    ·exact Or.inl h4
   ·rw [hv.2 (fun h=>h3 (hiff.1 h).2.2.1)];refine icheck_zero a w s mi h1 (by omega) (e0.1 (by
     by_cases h:t.head?=some 48
     ·exact h
     ·exact absurd (Or.inl h) h3)) ?_ hcut
    by_cases h5:t.length=1
    ·right;refine ⟨by omega,?_⟩;cases mi
     ·exact absurd (Or.inr ⟨h5,rfl⟩) h3
     ·rfl
    ·left;omega
  ·rw [hv.2 (fun h=>h2 (hiff.1 h).2.1)];exact icheck_long a w s mi (by omega) hcut
end Go.Proofs.YtmahadmefplbnaaGreatDoor
